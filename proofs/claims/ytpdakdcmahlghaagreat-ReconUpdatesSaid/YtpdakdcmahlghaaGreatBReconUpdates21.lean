-- Joined texts of this work (wip/tools/bundle.py).
import Derived.Test.YtpdakdcmahlghaaGreatBReconUpdates20
set_option maxHeartbeats 8000000
set_option maxRecDepth 100000
set_option linter.unusedVariables false
set_option linter.unusedSimpArgs false
section
namespace Go.Proofs.Xc
open Go.RowKit Go.Proofs.Pw Go.Proofs.Pl Go.Proofs.Pm
attribute [local go_sem] a7z a8z bjz bkz aZz a0z a9z baz
def aQz.j0:Nat->List (List Int)->Bool->Bool->Int->Int->Int->Int->List Int->Option (Bool)
 |0,_,_,_,_,_,_,_,_=>none
 |k+1,x1,x7,x21,x851000,x851001,x851002,x852000,x852001=>if x21=true then (some x7) else ((aIz.f k x851000 x851001 x851002 x1 x852000 x852001).bind fun bt854=>((amz.f k x851000 x851001 x851002 x1 x852000 x852001).bind fun bt858=>(if x7=true then ((bdz.f k bt854.1 bt858.1).bind fun t862=>(if t862=true then (some (bt854.2==bt858.2)) else (some false))) else (some false))))
def aQz.f (k:Nat) (a0_0:Int) (a0_1:Int) (a0_2:Int) (l1:List (List Int)) (a2_0:Int) (l2_1:List Int):Option (Bool):=(cPz.f k).bind fun t852=>((aBz.f k l1).bind fun t853=>(if t853=true then (aQz.j0 k l1 t852 (decide ((l2_1.length:Int)>300)) a0_0 a0_1 a0_2 a2_0 l2_1) else (aQz.j0 k l1 t852 true a0_0 a0_1 a0_2 a2_0 l2_1)))
theorem aQz.calls (k : Nat) (a0_0 : Int) (a0_1 : Int) (a0_2 : Int) (A1 : Option Addr) (c1 : Nat) (l1 : List (List Int)) (a2_0 : Int) (A2_1 : Option Addr) (c2_1 : Nat) (l2_1 : List Int) (r : Bool) (w : World) (hr_ : Aside0 (r = true)) (hr1 : Kd.C (Kd.slice 5 (Kd.int .u8)) w A1 l1.length l1) (hc1 : l1.length <= c1) (hr2_1 : Kd.C (Kd.int .u8) w A2_1 l2_1.length l2_1) (hc2_1 : l2_1.length <= c2_1) (h : aQz.f k a0_0 a0_1 a0_2 l1 a2_0 l2_1 = some r) :
  Calls Tryz.prog 7 #[.agg #[.int .i64 a0_0, .int .i64 a0_1, .int .i64 a0_2], .slice A1 l1.length c1, .agg #[.int .i64 a2_0, .slice A2_1 l2_1.length c2_1]] w fun e w'=>e= .returned (.bool r)/\Below w.heap.size w w':=by
 have hu23:=Tryz.underlying23;have hu48:=Tryz.underlying48;have HR1:=Za hr1;have HC1:=Za hc1;clear hr1 hc1;have HR2_1:=Za hr2_1;have HC2_1:=Za hc2_1;clear hr2_1 hc2_1;have HB:=Za (Zw w.heap.size w);have H:=h;clear h;unfold aQz.f at H;obtain ⟨t852,A4,H⟩:=ob_ H
 (try dsimp only at H)
 have HC5:=Za H;clear H;go_enter Tryz.func7,Tryz.ntmps7
 go_upto_region 2 with (first|((with_reducible refine blz (N:=3) rfl ?_);(try (refine aYz (by rfl) ?_;dsimp only));refine bx_ 3 #[.int .i64 a0_0, .int .i64 a0_1, .int .i64 a0_2] 23 ?_;intro gb850 hg w6 hbox hb;have n_:=Zb (hs_ HB hb) (Zb (Za (hbox)) (Zb (ag_ HB gb850) (ag_ HB gb850)));clear HB;obtain ⟨HB,BK850,GW850,GE850⟩:=n_;clear hb hbox hg)|((with_reducible refine blz (N:=5) rfl ?_);(try (refine aYz (by rfl) ?_;dsimp only));refine bx_ 5 #[.int .i64 a2_0, .slice A2_1 l2_1.length c2_1] 48 ?_;intro gb851 hg w7 hbox hb;have n_:=Zb (bb_ BK850 hb) (Zb (hs_ HB hb) (Zb (Za (hbox)) (Zb (ag_ HB gb851) (Zb (ag_ HB gb851) (Zb (n1_ BK850 gb851) (n2_ BK850 gb851))))));clear BK850 HB;obtain ⟨BK850,HB,BK851,GW851,GE851,NB850_851,NB851_850⟩:=n_;clear hb hbox hg)|((with_reducible refine abz (f:=26) rfl ?_);refine gl_ (some 12) Tryz.func26 #[] ?_;(with_reducible refine (cPz.calls k  t852 _ A4.out).mono ?_);rintro e w8 ⟨rfl,hb⟩;refine ⟨_,rfl,?_⟩;have n_:=Zb (bb_ BK850 hb) (Zb (bb_ BK851 hb) (hs_ HB hb));clear BK850 BK851 HB;obtain ⟨BK850,BK851,HB⟩:=n_;(try clear hb)))
 (try simp only [Act.put,Zg,Zh,Zi])
 go_cut [21] (fun v21 wc=> ∃(kq:Nat) (x21_4:Bool),v21= .bool x21_4/\Aside0 (aQz.j0 kq l1 t852 x21_4 a0_0 a0_1 a0_2 a2_0 l2_1=some r)/\Aside0 (kq<=k)/\Aside0 (wc.heap[gb850]?=some (.cells #[.int .i64 a0_0, .int .i64 a0_1, .int .i64 a0_2] 23 (0,0)))/\Aside0 (wc.heap[gb851]?=some (.cells #[.int .i64 a2_0,(.slice A2_1 l2_1.length c2_1)] 48 (0,0)))/\Aside0 (Below w.heap.size w wc))
 case first=>
  have H:=HC5.out;clear HC5;obtain ⟨t853,A9,H⟩:=ob_ H
  (try dsimp only at H)
  by_cases c10:t853=true
  ·subst c10;rw [Ya rfl] at H;have H':=Za H;clear H
   go_wp2_with (first|((with_reducible refine abz (f:=18) rfl ?_);refine gl_ (some 14) Tryz.func18 #[.slice A1 l1.length c1] ?_;(with_reducible refine (aBz.calls k _ _ l1 true _ (xd_ (Kd.azz HR1.out HB.out)) (HC1.out) A9.out).mono ?_);rintro e w' ⟨rfl,⟨nd,rfl⟩⟩;refine ⟨_,rfl,?_⟩;have hnb11:=NB851_850.out;have hnc11:=NB850_851.out;obtain ⟨_,_,_,_⟩:=bc2_ BK851.out))
   go_meet
   case rel=>exact ⟨_,(decide ((l2_1.length:Int)>300)),sd_,H',⟨by first|omega|exact Zv _⟩,⟨bk_⟩,⟨bk_⟩,⟨bl_⟩⟩
  ·replace c10:=Zr c10;subst c10;rw [Yb (show¬(false=true) by decide)] at H;have H':=Za H;clear H
   go_wp2_with (first|((with_reducible refine abz (f:=18) rfl ?_);refine gl_ (some 14) Tryz.func18 #[.slice A1 l1.length c1] ?_;(with_reducible refine (aBz.calls k _ _ l1 false _ (xd_ (Kd.azz HR1.out HB.out)) (HC1.out) A9.out).mono ?_);rintro e w' ⟨rfl,⟨nd,rfl⟩⟩;refine ⟨_,rfl,?_⟩))
   go_meet
   case rel=>exact ⟨_,(true),sd_,H',⟨by first|omega|exact Zv _⟩,⟨bk_⟩,⟨bk_⟩,⟨bl_⟩⟩
 case rest=>
  clear HC5;obtain ⟨kq,x21_4,rfl,HA,HJ4,BK850,BK851,HB⟩:=hcut;rcases kq with _|kj4
  ·exact Yf HA.out (by simp [aQz.j0])
  have H:=HA.out;clear HA;simp only [aQz.j0] at H;by_cases c13:x21_4=true
  ·subst c13;rw [Ya rfl] at H;obtain rfl:=Zn H;go_wp2;go_ret;exact ⟨er_,bl_⟩
  ·replace c13:=Zr c13;subst c13;rw [Yb (show¬(false=true) by decide)] at H;obtain ⟨⟨t854,t857⟩,A14,H⟩:=ob_ H
   (try dsimp only at H)
   obtain ⟨⟨t858,t861⟩,A15,H⟩:=ob_ H
   (try dsimp only at H)
   by_cases c16:t852=true
   rotate_left
   ·replace c16:=Zr c16;subst c16;rw [Yb (show¬(false=true) by decide)] at H;exact Yf ((Zn H).trans hr_.out) (by simp)
   subst c16;rw [Ya rfl] at H;obtain ⟨t862,A17,H⟩:=ob_ H
   (try dsimp only at H)
   by_cases c18:t862=true
   ·subst c18;rw [Ya rfl] at H;obtain rfl:=Zn H;have hnb19:=NB850_851.out;have hnc19:=NB851_850.out;obtain ⟨_,_,_,_,_,_⟩:=bc3_ BK850.out;obtain ⟨_,_,_,_⟩:=bc2_ BK851.out
    go_wp2_with (first|((with_reducible refine abz (f:=33) rfl ?_);refine gl_ (some 30) Tryz.func33 #[.agg #[.int .i64 a0_0, .int .i64 a0_1, .int .i64 a0_2], .slice A1 l1.length c1, .int .i64 a2_0, .slice A2_1 l2_1.length c2_1] ?_;(with_reducible refine (aIz.calls kj4 a0_0 a0_1 a0_2 _ _ l1 a2_0 _ _ l2_1 t854 t857 _ (xd_ (Kd.azz HR1.out HB.out)) (HC1.out) (xd_ (Kd.azz HR2_1.out HB.out)) (HC2_1.out) A14.out).mono ?_);rintro e w22 ⟨v855,rfl,ho0,hb⟩;refine ⟨_,rfl,?_⟩;have n_:=Zb (Za (Kd.cbz (Kd.cnz (ok':=fun k_=>k_≠gb850/\k_≠gb851) (Kd.S_N (Kd.bFz ho0)) (fun k_ hk_=>⟨(Kd.freshB (g:=gb850) (o:= .cells #[.int .i64 a0_0, .int .i64 a0_1, .int .i64 a0_2] 23 (0,0)) bk_ k_ hk_.2.1),(Kd.freshB (g:=gb851) (o:= .cells #[.int .i64 a2_0, .slice A2_1 l2_1.length c2_1] 48 (0,0)) bk_ k_ hk_.2.1)⟩)) (aez bl_))) (Zb (bb_ BK850 hb) (Zb (bb_ BK851 hb) (hs_ HB hb)));clear BK850 BK851 HB;obtain ⟨HO856,BK850,BK851,HB⟩:=n_;clear hb ho0;obtain ⟨_,_,_,_,_,_⟩:=bc3_ BK850.out;obtain ⟨_,_,_,_⟩:=bc2_ BK851.out)|((with_reducible refine abz (f:=34) rfl ?_);refine gl_ (some 40) Tryz.func34 #[.agg #[.int .i64 a0_0, .int .i64 a0_1, .int .i64 a0_2], .slice A1 l1.length c1, .int .i64 a2_0, .slice A2_1 l2_1.length c2_1] ?_;(with_reducible refine (amz.calls kj4 a0_0 a0_1 a0_2 (fun k_=>k_<w.heap.size) _ _ l1 a2_0 (fun k_=>k_<w.heap.size) _ _ l2_1 t858 t861 _ (Kd.V_mk HC1.out (Kd.cEz (Kd.C_F (Kd.dSz 5 (Kd.dhz .u8)) HR1.out) bl_)) (Kd.V_mk HC2_1.out (Kd.cEz (Kd.C_F (Kd.dhz .u8) HR2_1.out) bl_)) A15.out).mono ?_);rintro e w25 ⟨v859,rfl,ho0,hb⟩;refine ⟨_,rfl,?_⟩;have n_:=Zb (Za (Kd.cpz (xd_ HO856.out) (Kd.czz ho0) hb)) (Zb (Za (Kd.cbz (Kd.cnz (ok':=fun k_=>some k_≠(v855:Value).ownBlock/\k_≠gb850/\k_≠gb851) ho0 (fun k_ hk_=>⟨Or.elim hk_ (fun hs_=>Or.elim hs_ (fun hs_=>fun e_=>Nat.not_le.2 hs_ (Kd.czz HO856.out k_ e_.symm)) (fun hs_=>fun e_=>Nat.not_le.2 hs_ (Kd.czz HO856.out k_ e_.symm))) (fun hn_=>(Kd.fresh' (Kd.N_lt (xd_ HO856.out)) k_ hn_)),Or.elim hk_ (fun hs_=>Or.elim hs_ (fun hs_=>fun e_=>Nat.not_le.2 hs_ (by rw [e_];exact GW850.out)) (fun hs_=>fun e_=>Nat.not_le.2 hs_ (by rw [e_];exact GW850.out))) (fun hn_=>(Kd.freshB (g:=gb850) (o:= .cells #[.int .i64 a0_0, .int .i64 a0_1, .int .i64 a0_2] 23 (0,0)) bk_ k_ hn_)),Or.elim hk_ (fun hs_=>Or.elim hs_ (fun hs_=>fun e_=>Nat.not_le.2 hs_ (by rw [e_];exact GW851.out)) (fun hs_=>fun e_=>Nat.not_le.2 hs_ (by rw [e_];exact GW851.out))) (fun hn_=>(Kd.freshB (g:=gb851) (o:= .cells #[.int .i64 a2_0, .slice A2_1 l2_1.length c2_1] 48 (0,0)) bk_ k_ hn_))⟩)) (aez bl_))) (Zb (bb_ BK850 hb) (Zb (bb_ BK851 hb) (hs_ HB hb))));clear HO856 BK850 BK851 HB;obtain ⟨HO856,HO860,BK850,BK851,HB⟩:=n_;clear hb ho0;obtain ⟨Ao26,co26,eo26⟩:=Kd.cRz HO856.out;subst eo26;obtain ⟨Ao27,co27,eo27⟩:=Kd.cRz HO860.out;subst eo27)|(go_at_call 21;(with_reducible refine (bdz.calls kj4 _ _ t854 _ _ t858 true _ (xd_ (Kd.bnz HO856.out).2.2) ((Kd.bnz HO856.out).2.1) (xd_ (Kd.bnz HO860.out).2.2) ((Kd.bnz HO860.out).2.1) A17.out).mono ?_);rintro e w' ⟨rfl,⟨nd,rfl⟩⟩))
    go_ret;exact ⟨er_,bl_⟩
   ·replace c18:=Zr c18;subst c18;rw [Yb (show¬(false=true) by decide)] at H;exact Yf ((Zn H).trans hr_.out) (by simp)
def xorB (a b:List Int):List Int:=List.zipWith (fun x y=>Go.bits .xor .u8 x y) a b
def sumB (L:Nat) (rows:List (List Int)):List Int:=rows.foldl xorB (List.replicate L 0)
theorem dBz (a b:List Int) (h:a.length=b.length):(xorB a b).length=b.length:=by simp [xorB];omega
theorem fiz {L:Nat} : ∀(rows:List (List Int)) (acc:List Int),acc.length=L->(∀r,r∈rows->r.length=L)->(rows.foldl xorB acc).length=L
 | [],acc,h,_=>h
 |r::rs,acc,h,hr=>by
  have h1:=hr r (List.mem_cons_self ..);exact fiz rs (xorB acc r) (by rw [dBz _ _ (h.trans h1.symm)];exact h1) (fun q hq=>hr q (List.mem_cons_of_mem _ hq))
theorem sumB_length {L:Nat} (rows:List (List Int)) (h: ∀r,r∈rows->r.length=L):(sumB L rows).length=L:=fiz rows _ (by simp) h
theorem dWz {j:Nat} (h:j<=1000000000):wrap64 ((j:Int)+1)=((j+1:Nat):Int):=by unfold wrap64;omega
theorem sum_l1 (rows : List (List Int)) (n : Int) (i : Nat) (acc row : List Int) (r : List Int × Int) (K : Nat) (hl : acc.length = row.length) (hL : row.length <= 100000000) (hi : i <= 100000000)
  (h:aOz.l0 K (xorB acc row) rows n ((i+1:Nat):Int)=some r):
  ∀(d j:Nat),j+d=row.length->aOz.l1 (K+d+1) ((xorB acc row).take j++acc.drop j) rows n (i:Int) row (row.length:Int) (j:Int)=some r
 |0,j,hj=>by
  obtain rfl:j=row.length:=by omega
  unfold aOz.l1;rw [Yb (by omega),dWz (by omega),List.take_of_length_le (by rw [dBz _ _ hl];exact Zv _),List.drop_of_length_le (by omega),List.append_nil];exact h
 |d+1,j,hj=>by
  have hlx:=dBz _ _ hl;have hjl:j<row.length:=by omega
  have hlen:((xorB acc row).take j++acc.drop j).length=row.length:=by simp [hlx];omega
  unfold aOz.l1;rw [Ya (by omega),Ya (by omega),Ya (by omega),Ya (by omega),dWz (by omega)]
  have hset:((xorB acc row).take j++acc.drop j).set (j:Int).toNat (Go.bits .xor .u8 (rd ((xorB acc row).take j++acc.drop j) (j:Int)) (rd row (j:Int)))=(xorB acc row).take (j+1)++acc.drop (j+1):=by
   have e1:rd ((xorB acc row).take j++acc.drop j) (j:Int)=acc.getD j 0:=by
    unfold rd;rw [Zu,Zm,List.getElem?_append_right (by simp [hlx];omega),List.getElem?_drop];simp [hlx,Nat.min_eq_left (Nat.le_of_lt hjl)]
   have e2:rd row (j:Int)=row.getD j 0:=by unfold rd;rw [Zu]
   rw [e1,e2,Zu];apply List.ext_getElem?
   intro q;have hja:j<acc.length:=by omega
   have hx:(xorB acc row)[j]?=some (Go.bits .xor .u8 (acc.getD j 0) (row.getD j 0)):=by
    unfold xorB;rw [List.getElem?_zipWith,Zf hja,Zf hjl];simp [Zm,Zf hja,Zf hjl]
   rw [List.getElem?_set];by_cases hq:j=q
   ·subst hq;rw [Ya rfl,Ya (by omega),List.getElem?_append_left (by simp [hlx];omega),List.getElem?_take,Ya (by omega),hx]
   ·rw [Yb hq];by_cases hlt:q<j
    ·rw [List.getElem?_append_left (by simp [hlx];omega),List.getElem?_append_left (by simp [hlx];omega),List.getElem?_take,List.getElem?_take,Ya hlt,Ya (by omega)]
    ·rw [List.getElem?_append_right (by simp [hlx];omega),List.getElem?_append_right (by simp [hlx];omega),List.getElem?_drop,List.getElem?_drop];congr 1
     simp [hlx,Nat.min_eq_left (Nat.le_of_lt hjl),Nat.min_eq_left (show j+1<=row.length from hjl)];omega
  rw [hset];have:=sum_l1 rows n i acc row r K hl hL hi h d (j+1) (by omega);rw [show K+(d+1)=K+d+1 by omega];exact this
theorem sum_l0 (rows : List (List Int)) (L : Nat) (hL : L <= 100000000) (hn : rows.length <= 1000) (hr : ∀ r, r ∈ rows -> r.length = L) :
  ∀(m i:Nat) (acc:List Int),i+m=rows.length->acc.length=L-> ∃K,aOz.l0 K acc rows (rows.length:Int) (i:Int)=some ((rows.drop i).foldl xorB acc,0)
 |0,i,acc,hi,ha=>by
  refine ⟨1,?_⟩;unfold aOz.l0;rw [Yb (by omega),List.drop_of_length_le (by omega)];rfl
 |m+1,i,acc,hi,ha=>by
  obtain ⟨row,hrow⟩: ∃r,rows[i]?=some r:=⟨_,Zf (by omega)⟩;have hrl:=hr row (Zo hrow)
  have hd:rows.drop i=row::rows.drop (i+1):=by
   obtain ⟨h1,h2⟩:=Zk hrow;rw [List.drop_eq_getElem_cons h1,h2]
  obtain ⟨K,hK⟩:=sum_l0 rows L hL hn hr m (i+1) (xorB acc row) (by omega) (by rw [dBz _ _ (by omega)];exact hrl);have h1:=sum_l1 rows (rows.length:Int) i acc row _ K (by omega) (by omega) (by omega) hK row.length 0 (by omega);refine ⟨K+row.length+1+1,?_⟩;have hrd:rd_L1 rows (i:Int)=row:=by unfold rd_L1;rw [Zu,Zm,hrow];rfl
  unfold aOz.l0;rw [Ya (by omega),Ya (by omega),Ya (by omega),hrd,Ya (by omega),hd]
  simpa using h1
theorem sum_ev (rows:List (List Int)) (L:Nat) (hL:L<=100000000) (hn:rows.length<=1000) (h0:0<rows.length) (hr: ∀r,r∈rows->r.length=L):Ev (fun k=>aOz.f k rows) (sumB L rows,0):=by
 obtain ⟨row,hrow⟩: ∃r,rows[0]?=some r:=⟨_,Zf h0⟩;have hrl:=hr row (Zo hrow);have hrd:rd_L1 rows 0=row:=by unfold rd_L1;rw [show (0:Int).toNat=0 from rfl,Zm,hrow];rfl
 obtain ⟨K,hK⟩:=sum_l0 rows L hL hn hr rows.length 0 (List.replicate L 0) (by omega) (by simp);refine Ev.of (fun k=>aOz.mono _ k) (k:=K) ?_;unfold aOz.f;rw [Ya (by omega),hrd,Ya (by omega),Ya (by omega),hrl,Zu]
 simpa [sumB] using hK
def eQz.f (a0_0:Int) (a0_1:Int) (a0_2:Int):Option (Int×Int):=(bmz.f a0_0).bind fun bt112=>(if bt112.2.2.2.1=106 then (some (8,0)) else (if bt112.2.2.2.1=105 then (some (16,0)) else (if bt112.2.2.2.1=98 then (some (1,4)) else (some (1,0)))))
def bzz.j0:Nat->Int->Bool->Int->Int->Int->Option (Int×Int)
 |0,_,_,_,_,_=>none
 |k+1,x1,x9,x112000,x112001,x112002=>if x9=true then (some (0,1)) else (if x1>4096 then (some (0,11)) else ((eQz.f x112000 x112001 x112002).bind fun bt113=>(if (wrap64 (bt113.1*x112001))=0 then (none) else (some (wrap64 (bt113.1*(mx (wrap64 (Int.tdiv (wrap64 ((wrap64 ((wrap64 (x1+bt113.2))+(wrap64 (bt113.1*x112001)))) - 1)) (wrap64 (bt113.1*x112001)))) 1)),0)))))
def bzz.f (k:Nat) (a0_0:Int) (a0_1:Int) (a0_2:Int) (a1:Int):Option (Int×Int):=(aDz.f a0_0 a0_1 a0_2).bind fun t112=>(if t112=true then (bzz.j0 k a1 (decide (a1<0)) a0_0 a0_1 a0_2) else (bzz.j0 k a1 true a0_0 a0_1 a0_2))
theorem bzz.aVz: ∀k,(∀y0 y1 y2 y3 y4,LeO (bzz.j0 k y0 y1 y2 y3 y4) (bzz.j0 (k+1) y0 y1 y2 y3 y4))
 |0=>fun _ _ _ _ _ r h=>by simp [bzz.j0] at h
 |k+1=>by
  have ih0:=bzz.aVz k
  ·intro y0 y1 y2 y3 y4;unfold bzz.j0
   repeat' with_reducible first|apply ih0|apply Yg|apply Yh|apply Yi|refine Yj ?_ fun _=>?_
theorem bzz.mono: ∀a0 a1 a2 a3 k,LeO (bzz.f k a0 a1 a2 a3) (bzz.f (k+1) a0 a1 a2 a3):=by
 intro a0 a1 a2 a3 k;have ih0:=bzz.aVz k;unfold bzz.f
 repeat' with_reducible first|apply ih0|apply Yg|apply Yh|apply Yi|refine Yj ?_ fun _=>?_
end Go.Proofs.Xc
end
section
namespace Go.Proofs.Xc
open Go.RowKit Go.Proofs.Pw Go.Proofs.Pl Go.Proofs.Pm
attribute [local go_sem] a7z a8z bjz bkz aZz a0z a9z baz
attribute [local go_sem] Oper.semAt_some
def four4 (n:Int):List Int:= [n / 256 / 256 / 256 % 256,n / 256 / 256 % 256,n / 256 % 256,n % 256]
def laidL (ahead:Nat) (b:List Int):List Int:=(four4 (b.length:Int)).drop (4 - ahead)++b
def KpC (ex:Nat->Prop) (W W':World):Prop:=W.heap.size<=W'.heap.size/\ ∀(k:Nat) (o:Obj),W.heap[k]?=some o->o.isCells=true-> ¬ex k->W'.heap[k]?=some o
theorem KpC.trans {ex:Nat->Prop} {A B C:World} (h:KpC ex A B) (k:KpC ex B C):KpC ex A C:=⟨Zt h.1 k.1,fun i o hi ho he=>k.2 i o (h.2 i o hi ho he) ho he⟩
theorem KpC.refl (ex:Nat->Prop) (A:World):KpC ex A A:=⟨Zv _,fun _ _ h _ _=>h⟩
theorem KpC.of_below {ex:Nat->Prop} {A B:World} (h:Below A.heap.size A B):KpC ex A B:=⟨h.size,fun k o hk _ _=>(h.block k (aPz hk)).trans hk⟩
def dXz.fill (size:Nat):List Int->Nat->List (List Int)->Option (List (List Int))
 | [],_,rows=>some rows
 |c::cs,i,rows=>if i / size<rows.length then dXz.fill size cs (i+1) (rows.set (i / size) ((rows.getD (i / size) []).set (i % size) c)) else none
def dXz.f (k:Nat) (a0_0 a0_1 a0_2:Int) (l1:List Int):Option (List (List Int)×Int):=
 (bzz.f k a0_0 a0_1 a0_2 (l1.length:Int)).bind fun s=>if s.2=0 then (if 1<=a0_1 then (if a0_1<=1000 then (if 1<=s.1 then (if s.1<=100000 then (if l1.length<=100000 then
  (eQz.f a0_0 a0_1 a0_2).bind fun u=>(if u.2=0\/u.2=4 then (dXz.fill s.1.toNat (laidL u.2.toNat l1) 0 (List.replicate a0_1.toNat (List.replicate s.1.toNat 0))).bind fun r=>some (r,0) else none)
  else none) else none) else none) else none) else none) else some ([],s.2)
end Go.Proofs.Xc
end
section
namespace Go.Proofs.Xc
open Go.RowKit Go.Proofs.Pw Go.Proofs.Pl Go.Proofs.Pm
attribute [local go_sem] a7z a8z bjz bkz aZz a0z a9z baz
def codec_Encode.f (k:Nat) (a0_0:Int) (a0_1:Int) (a0_2:Int) (l1:List Int):Option ((List (List Int))×Int):=(dXz.f k a0_0 a0_1 a0_2 l1).bind fun bt116=>(if bt116.2=0 then ((aLz.f k a0_0 a0_1 a0_2 bt116.1).bind fun bt120=>(if bt116.1.length+bt120.1.length<5864062014805 then (some ((bt116.1++bt120.1),bt120.2)) else (none))) else (some (([] :List (List Int)),bt116.2)))
theorem byteF_len (wb a:Int):(byteF wb a).length=wN wb:=by unfold byteF wN;split<;>rfl
theorem bytesF_len (wb:Int): ∀l:List Int,(bytesF wb l).length=l.length*wN wb
 | [] =>by simp [bytesF]
 |a::l=>by
  have h1:=bytesF_len wb l;have h3:bytesF wb (a::l)=byteF wb a++bytesF wb l:=by unfold bytesF;rw [List.flatMap_cons]
  rw [h3,List.length_append,byteF_len,h1,List.length_cons,Nat.add_mul];omega
theorem mulB_len (wb c:Int) (b:List Int) (h:b.length % wN wb=0):(mulB wb c b).length=b.length:=by
 unfold mulB;rw [bytesF_len,List.length_map,faz];exact Nat.div_mul_cancel (Nat.dvd_of_mod_eq_zero h)
def dotV (L:Nat) (wb:Int) (c:List Int) (rows:List (List Int)):List Int:=sumB L (List.zipWith (mulB wb) c rows)
theorem zip_len {wb:Int} {L:Nat} (hd:L % wN wb=0) {c:List Int} {rows:List (List Int)} (hr: ∀r,r∈rows->r.length=L): ∀r,r∈List.zipWith (mulB wb) c rows->r.length=L:=by
 intro r h;obtain ⟨i,hi,rfl⟩:=List.mem_iff_getElem.1 h;rw [List.getElem_zipWith];rw [mulB_len _ _ _ (by rw [hr _ (List.getElem_mem ..)];exact hd)];exact hr _ (List.getElem_mem ..)
theorem dotV_len {wb:Int} {L:Nat} (hd:L % wN wb=0) {c:List Int} {rows:List (List Int)} (hr: ∀r,r∈rows->r.length=L):(dotV L wb c rows).length=L:=sumB_length _ (zip_len hd hr)
theorem dot_ev (wb:Int) (L:Nat) (hL:L<=1000000) (hd:L % wN wb=0) (c:List Int) (rows:List (List Int)) (h0:0<rows.length) (hc:c.length=rows.length) (hn:rows.length<=1000) (hr: ∀r,r∈rows->r.length=L):Ev (fun k=>dotB k wb c rows) (dotV L wb c rows,0):=by
 have hall:rows.all (evB wb)=true:=by
  rw [List.all_eq_true];intro r h;unfold evB;rw [hr r h,hd];rfl
 refine Ev.congr (f:=fun k=>aOz.f k (List.zipWith (mulB wb) c rows)) (fun k=>by unfold dotB;rw [Ya hall]) ?_;exact sum_ev _ L (by omega) (by simp;omega) (by simp;omega) (zip_len hd hr)
theorem parl_ev (wb : Int) (L : Nat) (hL : L <= 1000000) (hd : L % wN wb = 0) (data : List (List Int)) (h0 : 0 < data.length) (hn : data.length <= 1000) (hr : ∀ r, r ∈ data -> r.length = L) :
  ∀(rs acc:List (List Int)),(∀r,r∈rs->r.length=data.length)->Ev (fun k=>aLz.l k wb data rs acc) (acc++rs.map (fun c=>dotV L wb c data),0)
 | [],acc,_=>by
  simp only [aLz.l,List.map_nil,List.append_nil];exact Ev.now _
 |row::rs,acc,hc=>by
  have h1:=dot_ev wb L hL hd row data h0 (hc row (List.mem_cons_self ..)) hn hr;have h2:=parl_ev wb L hL hd data h0 hn hr rs (acc++ [dotV L wb row data]) (fun r h=>hc r (List.mem_cons_of_mem _ h));simp only [aLz.l];refine Ev.bind h1 ?_;rw [List.append_assoc] at h2
  simpa using h2
def parV (L:Nat) (p:Int) (K M:Nat) (data:List (List Int)):List (List Int):=(parM p K M).map fun c=>dotV L (pbits p) c data
theorem par_ev (p : Int) (K M L : Nat) (data : List (List Int)) (hmay : aDz.f p (K : Int) (M : Int) = some true) (hK : data.length = K) (hL : L <= 1000000) (hd : L % wN (pbits p) = 0) (hr : ∀ r, r ∈ data -> r.length = L) :
  Ev (fun k=>aLz.f k p (K:Int) (M:Int) data) (parV L p K M data,0):=by
 obtain ⟨p1,p2,k1,k2,m1,m2⟩:=cvz hmay;have hgd:=dgz p K M (by omega) (by omega) (by omega) (by omega)
 have hs:aLz.small data=true:=by
  simp only [aLz.small,Bool.and_eq_true,decide_eq_true_eq,List.all_eq_true];exact ⟨by omega,fun r h=>by rw [hr r h];exact hL⟩
 have h1:=parl_ev (pbits p) L hL hd data (by omega) (by omega) hr (parM p K M) [] (fun r h=>by rw [(hgd.1 r h).1,hK]);refine Ev.congr (fun k=> ?_) h1;unfold aLz.f;rw [hmay,Zl,Ya rfl,Ya (by omega),Ya hs,Zu,Zu]
def unitN (p:Int):Nat:=if p<=2 then 8 else if p<=4 then 16 else 1
def aheadN (p:Int):Nat:=if p=5 then 4 else 0
theorem rule_eq {p:Int} (h1:1<=p) (h2:p<=6) (k m:Int):eQz.f p k m=some ((unitN p:Int),(aheadN p:Int)):=by
 have:p=1\/p=2\/p=3\/p=4\/p=5\/p=6:=by omega
 rcases this with rfl|rfl|rfl|rfl|rfl|rfl<;>rfl
theorem w64 {x:Int} (h0: -1<=x) (h1:x<1000000000):wrap64 x=x:=by unfold wrap64;omega
theorem unitN_bd (p:Int):1<=unitN p/\unitN p<=16:=by unfold unitN;split<;>(try split)<;>omega
theorem aheadN_bd (p:Int):aheadN p<=4:=by unfold aheadN;split<;>omega
def sizeN (p:Int) (K n:Nat):Nat:=unitN p*max ((n+aheadN p+unitN p*K - 1) / (unitN p*K)) 1
theorem sizeN_le (p:Int) (K n:Nat) (hK:1<=K) (hK2:K<=8) (hn:n<=4096):sizeN p K n<=80000:=by
 have hu:=unitN_bd p;have ha:=aheadN_bd p
 have h1:(n+aheadN p+unitN p*K - 1) / (unitN p*K)<=4300:=by
  have h2:unitN p*K<=16*8:=Nat.mul_le_mul hu.2 hK2;exact Zt (Nat.div_le_self _ _) (by omega)
 unfold sizeN;exact Zt (Nat.mul_le_mul hu.2 (show max ((n+aheadN p+unitN p*K - 1) / (unitN p*K)) 1<=4300 by omega)) (by omega)
theorem size_ev (p:Int) (K M n:Nat) (hmay:aDz.f p (K:Int) (M:Int)=some true) (hn:n<=4096):Ev (fun k=>bzz.f k p (K:Int) (M:Int) (n:Int)) ((sizeN p K n:Int),0):=by
 obtain ⟨p1,p2,k1,k2,m1,m2⟩:=cvz hmay;have hu:=unitN_bd p;have ha:=aheadN_bd p;have hup:unitN p*K<=16*8:=Nat.mul_le_mul hu.2 (by omega);have hu1:1<=unitN p*K:=Nat.mul_pos hu.1 (by omega);refine Ev.of (fun k=>bzz.mono _ _ _ _ k) (k:=1) ?_;unfold bzz.f;rw [hmay,Zl,Ya rfl,show decide ((n:Int)<0)=false by simp];rw [bzz.j0];rw [Yb (by decide),Yb (by omega),rule_eq p1 p2,Zl]
 have w1:wrap64 ((unitN p:Int)*(K:Int))=((unitN p*K:Nat):Int):=by
  rw [<-Int.natCast_mul];unfold wrap64;omega
 dsimp only;rw [w1,Yb (by omega)]
 have w2:wrap64 (wrap64 (wrap64 ((n:Int)+(aheadN p:Int))+((unitN p*K:Nat):Int)) - 1)=((n+aheadN p+unitN p*K - 1:Nat):Int):=by
  generalize unitN p*K=s at hup hu1|-;generalize aheadN p=a at ha|-;rw [w64 (x:=(n:Int)+(a:Int)) (by omega) (by omega),w64 (x:=(n:Int)+(a:Int)+(s:Int)) (by omega) (by omega),w64 (x:=(n:Int)+(a:Int)+(s:Int) - 1) (by omega) (by omega)];omega
 rw [w2,show Int.tdiv ((n+aheadN p+unitN p*K - 1:Nat):Int) ((unitN p*K:Nat):Int)=(((n+aheadN p+unitN p*K - 1) / (unitN p*K):Nat):Int) from (Int.ofNat_tdiv _ _).symm];have hle:=sizeN_le p K n (by omega) (by omega) hn;unfold sizeN at hle|-;have hq:(n+aheadN p+unitN p*K - 1) / (unitN p*K)<=4300:=Zt (Nat.div_le_self _ _) (by omega);generalize (n+aheadN p+unitN p*K - 1) / (unitN p*K)=q at hle hq|-
 have w3:mx (wrap64 (q:Int)) 1=((max q 1:Nat):Int):=by
  rw [show wrap64 (q:Int)=(q:Int) by unfold wrap64;omega];unfold mx;split<;>omega
 rw [w3, <-Int.natCast_mul];rw [show wrap64 ((unitN p*max q 1:Nat):Int)=((unitN p*max q 1:Nat):Int) by unfold wrap64;omega]
theorem parV_len (L:Nat) (p:Int) (K M:Nat) (data:List (List Int)) (hmay:aDz.f p (K:Int) (M:Int)=some true):(parV L p K M data).length=M:=by
 obtain ⟨p1,p2,k1,k2,m1,m2⟩:=cvz hmay;unfold parV;rw [List.length_map,(dgz p K M (by omega) (by omega) (by omega) (by omega)).2]
theorem fine_true (p:Int) (K M:Nat) (L:List (List Int)) (hmay:aDz.f p (K:Int) (M:Int)=some true) (hb:K+M<=1000) (hL:L.length=K+M):bEz.f p (K:Int) (M:Int) L=some true:=by
 unfold bEz.f;rw [hmay,Zl,Ya rfl,hL,w64 (by omega) (by omega),show (((K+M:Nat):Int)==(K:Int)+(M:Int))=true by simp]
theorem u8_xor (a b:Nat) (ha:a<256) (hb:b<256):Go.bits .xor .u8 (a:Int) (b:Int)=((a^^^b:Nat):Int):=by
 have h:a^^^b<2^8:=Nat.xor_lt_two_pow ha hb;have e: ∀x:Nat,x<256->(BitVec.ofInt 8 (x:Int)).toNat=x:=fun x hx=>by rw [BitVec.toNat_ofInt];omega
 show IntKind.u8.wrap ((BitVec.ofInt 8 (a:Int)^^^BitVec.ofInt 8 (b:Int)).toNat:Int)=_;rw [BitVec.toNat_xor,e a ha,e b hb];show ((a^^^b:Nat):Int) % 256=_;omega
def isB (l:List Int):Prop:= ∀x,x∈l->0<=x/\x<=255
theorem isB_of (l:List Int) (h:isB l): ∃n:List Nat,l=n.map (fun x:Nat=>(x:Int))/\ ∀x,x∈n->x<256:=by
 refine ⟨l.map Int.toNat,?_,fun x hx=> ?_⟩
 ·rw [List.map_map]
  conv=>lhs;rw [<-List.map_id l]
  exact List.map_congr_left (fun x hx=>by have:=h x hx;simp;omega)
 ·obtain ⟨y,hy,rfl⟩:=List.mem_map.1 hx;have:=h y hy;omega
def xorN (a b:List Nat):List Nat:=List.zipWith (fun x y=>x^^^y) a b
theorem eyz: ∀(a b:List Nat),(∀x,x∈a->x<256)->(∀x,x∈b->x<256)->xorB (a.map fun x:Nat=>(x:Int)) (b.map fun x:Nat=>(x:Int))=(xorN a b).map fun x:Nat=>(x:Int)
 | [],_,_,_=>by simp [xorB,xorN]
 |_::_, [],_,_=>by simp [xorB,xorN]
 |x::a,y::b,ha,hb=>by
  have h:=eyz a b (fun q hq=>ha q (List.mem_cons_of_mem _ hq)) (fun q hq=>hb q (List.mem_cons_of_mem _ hq))
  unfold xorB xorN at *
  simp only [List.map_cons,List.zipWith_cons_cons];rw [h,u8_xor x y (ha x (List.mem_cons_self ..)) (hb y (List.mem_cons_self ..))]
theorem xorN_lt {w:Nat} : ∀(a b:List Nat),(∀x,x∈a->x<2^w)->(∀x,x∈b->x<2^w)-> ∀x,x∈xorN a b->x<2^w:=by
 intro a b ha hb x hx;unfold xorN at hx;obtain ⟨i,hi,rfl⟩:=List.mem_iff_getElem.1 hx;rw [List.getElem_zipWith];exact Nat.xor_lt_two_pow (ha _ (List.getElem_mem ..)) (hb _ (List.getElem_mem ..))
def pairN:List Nat->List Nat
 |x::y::r=>(x+256*y)::pairN r
 |_=> []
def castN (l:List Nat):List Int:=l.map fun x:Nat=>(x:Int)
theorem e6z (x y:Nat): ∀(l:List Nat),l.length % 2=0->pairN (l++ [x,y])=pairN l++ [x+256*y]
 | [],_=>rfl
 | [_],h=>by simp at h
 |u::v::l,h=>by
  have ih:=e6z x y l (by simp at h;omega);show (u+256*v)::pairN (l++ [x,y])=(u+256*v)::pairN l++ [x+256*y];rw [ih];rfl
theorem eMz: ∀(l:List Nat),(pairN l).length=l.length / 2
 | [] =>rfl
 | [_] =>by simp [pairN]
 |u::v::l=>by
  have ih:=eMz l;show (pairN l).length+1=(l.length+2) / 2;omega
theorem wTo_two (n:List Nat) (hb: ∀x,x∈n->x<256): ∀j,2*j<=n.length->wTo 2 (castN n) (2*j)=castN (pairN (n.take (2*j)))++List.replicate (n.length / 2 - j) 0
 |0,_=>by
  show wTo 2 (castN n) 0=_;unfold wTo castN;simp [pairN]
 |j+1,hj=>by
  have ih:=wTo_two n hb j (by omega);obtain ⟨x,hx⟩: ∃x,n[2*j]?=some x:=⟨_,Zf (by omega)⟩;obtain ⟨y,hy⟩: ∃y,n[2*j+1]?=some y:=⟨_,Zf (by omega)⟩;have hx8:=hb x (Zo hx);have hy8:=hb y (Zo hy);have gx:(castN n).getD (2*j) 0=(x:Int):=by unfold castN;rw [Zm,List.getElem?_map,hx];rfl
  have gy:(castN n).getD (2*j+1) 0=(y:Int):=by unfold castN;rw [Zm,List.getElem?_map,hy];rfl
  have hpl:(castN (pairN (n.take (2*j)))).length=j:=by
   unfold castN;rw [List.length_map,eMz,List.length_take];omega
  have e1:wTo 2 (castN n) (2*j+1)=castN (pairN (n.take (2*j)))++(x:Int)::List.replicate (n.length / 2 - (j+1)) 0:=by
   have e:wTo 2 (castN n) (2*j+1)=if (2*j) % 2=0 then (wTo 2 (castN n) (2*j)).set ((2*j) / 2) (wrap64 ((castN n).getD (2*j) 0)) else (wTo 2 (castN n) (2*j)).set ((2*j) / 2) (wrap64 ((wTo 2 (castN n) (2*j)).getD ((2*j) / 2) 0+wrap64 (256*wrap64 ((castN n).getD (2*j) 0)))):=rfl
   rw [e,Ya (by omega),ih,gx,show 2*j / 2=j by omega,w64 (by omega) (by omega),List.set_append_right _ _ (by omega),hpl,Nat.sub_self,show n.length / 2 - j=(n.length / 2 - (j+1))+1 by omega,List.replicate_succ,Zh]
  have e2:wTo 2 (castN n) (2*j+1+1)=if (2*j+1) % 2=0 then (wTo 2 (castN n) (2*j+1)).set ((2*j+1) / 2) (wrap64 ((castN n).getD (2*j+1) 0)) else (wTo 2 (castN n) (2*j+1)).set ((2*j+1) / 2) (wrap64 ((wTo 2 (castN n) (2*j+1)).getD ((2*j+1) / 2) 0+wrap64 (256*wrap64 ((castN n).getD (2*j+1) 0)))):=rfl
  have hgd:(castN (pairN (n.take (2*j)))++(x:Int)::List.replicate (n.length / 2 - (j+1)) 0).getD j 0=(x:Int):=by
   rw [Zm,List.getElem?_append_right (by omega),hpl,Nat.sub_self];rfl
  rw [show 2*(j+1)=2*j+1+1 by omega,e2,Yb (by omega),e1,gy,show (2*j+1) / 2=j by omega,hgd,w64 (x:=(y:Int)) (by omega) (by omega),w64 (x:=256*(y:Int)) (by omega) (by omega),w64 (x:=(x:Int)+256*(y:Int)) (by omega) (by omega),List.set_append_right _ _ (by omega),hpl,Nat.sub_self,Zh]
  have e3:n.take (2*j+1+1)=n.take (2*j)++ [x,y] :=by
   rw [List.take_add_one,List.take_add_one,hx,hy];simp
  rw [e3,e6z x y _ (by rw [List.length_take];omega)];unfold castN;simp
theorem words16 (n:List Nat) (hb: ∀x,x∈n->x<256) (he:n.length % 2=0):wordsF 16 (castN n)=castN (pairN n):=by
 unfold wordsF;have h:=wTo_two n hb (n.length / 2) (by omega);rw [show wN 16=2 from rfl,show (castN n).length=2*(n.length / 2) by unfold castN;rw [List.length_map];omega,h,Nat.sub_self,List.take_of_length_le (by omega)];simp
theorem wTo_one (b:List Int) (hb: ∀x,x∈b->0<=x/\x<=255): ∀i,i<=b.length->wTo 1 b i=b.take i++List.replicate (b.length - i) 0
 |0,_=>by unfold wTo;simp
 |i+1,hi=>by
  have ih:=wTo_one b hb i (by omega);obtain ⟨x,hx⟩: ∃x,b[i]?=some x:=⟨_,Zf (by omega)⟩;have hxb:=hb x (Zo hx);have hg:b.getD i 0=x:=by rw [Zm,hx];rfl
  have e:wTo 1 b (i+1)=if i % 1=0 then (wTo 1 b i).set (i / 1) (wrap64 (b.getD i 0)) else (wTo 1 b i).set (i / 1) (wrap64 ((wTo 1 b i).getD (i / 1) 0+wrap64 (256*wrap64 (b.getD i 0)))):=rfl
  rw [e,Ya (Nat.mod_one i),ih,hg,Nat.div_one,w64 (by omega) (by omega),List.set_append_right _ _ (by simp;omega),List.take_add_one,hx];rw [show i - (b.take i).length=0 by simp;omega,show b.length - i=(b.length - (i+1))+1 by omega,List.replicate_succ];simp
def mapN (f:Nat->Nat) (l:List Nat):List Nat:=l.map f
def mN (wb c:Int) (x:Nat):Nat:=(gmul wb c (x:Int)).toNat
theorem mN_cast {wb:Int} (hw:wb=8\/wb=16) (c:Int) (l:List Nat):(castN l).map (gmul wb c)=castN (mapN (mN wb c) l):=by
 unfold castN mapN;rw [List.map_map,List.map_map];refine List.map_congr_left (fun x _=> ?_);have:=(bQz hw c (x:Int)).1;show gmul wb c (x:Int)=((gmul wb c (x:Int)).toNat:Int);omega
theorem fsize8:fsize 8=256:=rfl
theorem fsize16:fsize 16=65536:=rfl
theorem mN_lt8 (c:Int) (x:Nat):mN 8 c x<256:=by
 have:=bQz (.inl rfl:(8:Int)=8\/(8:Int)=16) c (x:Int);rw [fsize8] at this;unfold mN;omega
def flatN:List Nat->List Nat
 | [] => []
 |x::r=>(x % 256)::(x / 256 % 256)::flatN r
theorem bytes16: ∀(l:List Nat),bytesF 16 (castN l)=castN (flatN l)
 | [] =>rfl
 |x::r=>by
  have h3:bytesF 16 ((x:Int)::castN r)=byteF 16 (x:Int)++bytesF 16 (castN r):=by unfold bytesF;rw [List.flatMap_cons]
  show bytesF 16 ((x:Int)::castN r)=((x % 256:Nat):Int)::((x / 256 % 256:Nat):Int)::castN (flatN r);rw [h3,bytes16 r];show [(x:Int) % 256,(x:Int) / 256 % 256] ++_=_;simp
theorem bytes8: ∀(l:List Nat),(∀x,x∈l->x<256)->bytesF 8 (castN l)=castN l
 | [],_=>rfl
 |x::r,h=>by
  have h3:bytesF 8 ((x:Int)::castN r)=byteF 8 (x:Int)++bytesF 8 (castN r):=by unfold bytesF;rw [List.flatMap_cons]
  have hx:=h x (List.mem_cons_self ..);show bytesF 8 ((x:Int)::castN r)=(x:Int)::castN r;rw [h3,bytes8 r (fun q hq=>h q (List.mem_cons_of_mem _ hq))];show [(x:Int) % 256] ++_=_;rw [show (x:Int) % 256=(x:Int) by omega];rfl
theorem flatN_lt: ∀(a:List Nat) (x:Nat),x∈flatN a->x<256
 | [],_,h=>by simp [flatN] at h
 |u::a,x,h=>by
  rcases List.mem_cons.1 (show x∈(u % 256)::(u / 256 % 256)::flatN a from h) with rfl|h
  ·omega
  ·rcases List.mem_cons.1 h with rfl|h
   ·omega
   ·exact flatN_lt a x h
def mulN (wb c:Int) (n:List Nat):List Nat:=if wb=8 then mapN (mN 8 c) n else flatN (mapN (mN 16 c) (pairN n))
theorem mapN_lt8 (c:Int) (n:List Nat): ∀x,x∈mapN (mN 8 c) n->x<256:=by
 intro x hx;obtain ⟨y, -,rfl⟩:=List.mem_map.1 hx;exact mN_lt8 c y
theorem mulN_lt (wb c:Int) (n:List Nat): ∀x,x∈mulN wb c n->x<256:=by
 unfold mulN;split
 ·exact mapN_lt8 c n
 ·exact flatN_lt _
theorem words8 (n:List Nat) (hb: ∀x,x∈n->x<256):wordsF 8 (castN n)=castN n:=by
 unfold wordsF
 rw [show wN 8=1 from rfl,wTo_one (castN n) (fun x hx=>by
  obtain ⟨y,hy,rfl⟩:=List.mem_map.1 hx;have:=hb y hy
  omega) _ (Zv _),Nat.sub_self,List.take_length]
 simp
theorem mulB_nat {wb:Int} (hw:wb=8\/wb=16) (c:Int) (n:List Nat) (hb: ∀x,x∈n->x<256) (he:n.length % wN wb=0):mulB wb c (castN n)=castN (mulN wb c n):=by
 unfold mulB mulN;rcases hw with rfl|rfl
 ·rw [words8 n hb,mN_cast (.inl rfl),bytes8 _ (mapN_lt8 c n),Ya rfl]
 ·rw [words16 n hb he,mN_cast (.inr rfl),bytes16,Yb (by decide)]
theorem xorN_len2 {S:Nat} {a b:List Nat} (ha:a.length=S) (hb:b.length=S):(xorN a b).length=S:=by simp [xorN,ha,hb]
theorem mulN_len {wb:Int} (hw:wb=8\/wb=16) (c:Int) (n:List Nat) (hb: ∀x,x∈n->x<256) (he:n.length % wN wb=0):(mulN wb c n).length=n.length:=by
 have h:=mulB_len wb c (castN n) (by simpa [castN] using he);rw [mulB_nat hw c n hb he] at h
 simpa [castN] using h
def bpz.l0:Nat->List Int->List Int->Int->Int->Option (Bool)
 |0,_,_,_,_=>none
 |k+1,x0,x1,x12,x13=>if x13<x12 then (if 0<=x13 then (if x13<(x0.length:Int) then (if x13<(x1.length:Int) then (if (rd x0 x13)=(rd x1 x13) then (bpz.l0 k x0 x1 x12 (wrap64 (x13+1))) else (some false)) else (none)) else (none)) else (none)) else (some true)
def bpz.f (k:Nat) (l0:List Int) (l1:List Int):Option (Bool):=if (l0.length:Int)=(l1.length:Int) then (bpz.l0 k l0 l1 (l0.length:Int) 0) else (some false)
def eqRows (k:Nat):List (List Int)->List (List Int)->Option Bool
 | [], [] =>some true
 |x::xs,y::ys=>(bpz.f k x y).bind fun b=>if b=true then eqRows k xs ys else some false
 |_,_=>some false
def eqFunc (k:Nat) (p q:List (List Int)):Option Bool:=if p.length=q.length then (if p.length<=1000000 then eqRows k p q else none) else some false
def dez.f (k:Nat) (a0_0 a0_1 a0_2:Int) (l1:List (List Int)):Option Bool:=
 (aDz.f a0_0 a0_1 a0_2).bind fun b=>if b=true then (if (l1.length:Int)=a0_1+a0_2 then ((aLz.f k a0_0 a0_1 a0_2 (l1.take a0_1.toNat)).bind fun t=>if t.2=0 then eqFunc k t.1 (l1.drop a0_1.toNat) else some false) else some false) else some false
def dYz.f (l0_0:List (List Int)) (a0_1:Int) (a1:Int):Option (Int×Int×Int):=some (a1,a0_1,wrap64 ((l0_0.length:Int) - a0_1))
def cQz.f (k:Nat) (l0_0:List (List Int)) (a0_1:Int) (a1:Int):Option (Bool):=if 0<(l0_0.length:Int) then ((bzz.f k a1 8 1 0).bind fun bt601=>(if ((rd_L1 l0_0 0).length:Int)>0 then (if bt601.1=0 then (none) else (some ((((rd_L1 l0_0 0).length:Int) % bt601.1)==0))) else (some false))) else (none)
def ckz.f (k:Nat) (l0_0:List (List Int)) (a0_1:Int) (a1:Int):Option (Bool):=(dYz.f l0_0 a0_1 a1).bind fun bt604=>((aDz.f bt604.1 bt604.2.1 bt604.2.2).bind fun t608=>(if t608=true then ((cQz.f k l0_0 a0_1 a1).bind fun t609=>(if t609=true then ((dez.f k bt604.1 bt604.2.1 bt604.2.2 l0_0).bind fun t610=>(some t610)) else (some false))) else (some false)))
def bSz.l0:Nat->List Int->Int->Option (List Int)
 |0,_,_=>none
 |k+1,x1,x3=>if x3<6 then (if x1.length<17592186044416 then (bSz.l0 k (x1++ [wrap64 (x3+1)]) (wrap64 (x3+1))) else (none)) else (some x1)
def bSz.f (k:Nat)  :Option (List Int):=bSz.l0 k ([] :List Int) 0
theorem bSz.aVz: ∀k,(∀y0 y1,LeO (bSz.l0 k y0 y1) (bSz.l0 (k+1) y0 y1))
 |0=>fun _ _ r h=>by simp [bSz.l0] at h
 |k+1=>by
  have ih0:=bSz.aVz k
  ·intro y0 y1;unfold bSz.l0
   repeat' with_reducible first|apply ih0|apply Yg|apply Yh|apply Yi|refine Yj ?_ fun _=>?_
theorem bSz.mono: ∀k,LeO (bSz.f k) (bSz.f (k+1)):=by
 intro  k;have ih0:=bSz.aVz k;unfold bSz.f
 repeat' with_reducible first|apply ih0|apply Yg|apply Yh|apply Yi|refine Yj ?_ fun _=>?_
def b3z.l (k:Nat) (l:List (List Int)) (a:Int):List Int->List Int->Option (List Int)
 | [],acc=>some acc
 |p::ps,acc=>(ckz.f k l a p).bind fun b=>b3z.l k l a ps (if b=true then acc++ [p] else acc)
def b3z.f (k:Nat) (l0:List (List Int)) (a1:Int):Option (List Int):=(bSz.f k).bind fun ps=>if ps.length<=1000 then b3z.l k l0 a1 ps [] else none
def trial_Pick.f (k:Nat) (l0:List (List Int)) (a1:Int):Option (Int×Int):=(b3z.f k l0 a1).bind fun t614=>(if (t614.length:Int)=0 then (some (0,4)) else (if (t614.length:Int)=1 then (if 0<(t614.length:Int) then (some (rd t614 0,0)) else (none)) else (some (0,6))))
theorem eqb_loop (x y:List Int) (n:Nat) (hx:x.length=n) (hy:y.length=n) (hn:n<=100000000): ∀(m i:Nat),i+m=n->Ev (fun k=>bpz.l0 k x y (n:Int) (i:Int)) (decide (x.drop i=y.drop i)):=by
 intro m
 induction m with
 |zero=>
  intro i hi;refine Ev.step (f:=fun _=>some true) (fun k=> ?_) ?_
  ·rw [bpz.l0,Yb (by omega)]
  ·rw [List.drop_of_length_le (by omega),List.drop_of_length_le (by omega)];exact Ev.now _
 |succ m ih=>
  intro i hi;have hix:i<x.length:=by omega
  have hiy:i<y.length:=by omega
  have e1:rd x (i:Int)=x[i] :=by unfold rd;rw [Zu,Zm,Zf hix];rfl
  have e2:rd y (i:Int)=y[i] :=by unfold rd;rw [Zu,Zm,Zf hiy];rfl
  have d1:=List.drop_eq_getElem_cons hix;have d2:=List.drop_eq_getElem_cons hiy;by_cases h:x[i] =y[i]
  ·refine Ev.step (f:=fun k=>bpz.l0 k x y (n:Int) ((i+1:Nat):Int)) (fun k=> ?_) ?_
   ·rw [bpz.l0,Ya (by omega),Ya (by omega),Ya (by omega),Ya (by omega),e1,e2,Ya h,dWz (by omega)]
   ·have:=ih (i+1) (by omega);rw [d1,d2];rw [show decide (x[i] ::x.drop (i+1)=y[i] ::y.drop (i+1))=decide (x.drop (i+1)=y.drop (i+1)) by rw [h];simp only [List.cons.injEq,true_and]];exact this
  ·refine Ev.step (f:=fun _=>some false) (fun k=> ?_) ?_
   ·rw [bpz.l0,Ya (by omega),Ya (by omega),Ya (by omega),Ya (by omega),e1,e2,Yb h]
   ·rw [d1,d2,Ze (by intro hh;injection hh with h1 _;exact h h1)];exact Ev.now _
theorem eqb_ev (x y:List Int) (hx:x.length<=100000000):Ev (fun k=>bpz.f k x y) (decide (x=y)):=by
 by_cases hl:x.length=y.length
 ·have h:=eqb_loop x y x.length rfl hl.symm hx x.length 0 (by omega);refine Ev.congr (fun k=> ?_) (by simpa using h);unfold bpz.f;rw [Ya (by omega)]
 ·refine Ev.congr (f:=fun _=>some false) (fun k=> ?_) ?_
  ·unfold bpz.f;rw [Yb (by omega)]
  ·rw [Ze (by rintro rfl;exact hl rfl)];exact Ev.now _
theorem eqRows_dec: ∀(p q:List (List Int)),(∀x,x∈p->x.length<=100000000)->Ev (fun k=>eqRows k p q) (decide (p=q))
 | [], [],_=>by simp only [eqRows];exact Ev.now _
 | [],_::_,_=>by simp only [eqRows];exact Ev.now _
 |_::_, [],_=>by simp only [eqRows];exact Ev.now _
 |x::xs,y::ys,h=>by
  simp only [eqRows];refine Ev.bind (eqb_ev x y (h x (List.mem_cons_self ..))) ?_;by_cases hxy:x=y
  ·refine Ev.congr (f:=fun k=>eqRows k xs ys) (fun k=>by rw [Ya (Zd hxy)]) ?_;have:=eqRows_dec xs ys (fun z hz=>h z (List.mem_cons_of_mem _ hz))
   simpa [hxy] using this
  ·refine Ev.congr (f:=fun _=>some false) (fun k=>by rw [Ze hxy,Yb (by decide)]) ?_;rw [Ze (by intro hh;injection hh with h1 _;exact hxy h1)];exact Ev.now _
theorem eqFunc_dec (p q:List (List Int)) (hl:p.length<=1000000) (h: ∀x,x∈p->x.length<=100000000):Ev (fun k=>eqFunc k p q) (decide (p=q)):=by
 by_cases hpq:p.length=q.length
 ·refine Ev.congr (fun k=> ?_) (eqRows_dec p q h);unfold eqFunc;rw [Ya hpq,Ya hl]
 ·refine Ev.congr (f:=fun _=>some false) (fun k=> ?_) ?_
  ·unfold eqFunc;rw [Yb hpq]
  ·rw [Ze (by rintro rfl;exact hpq rfl)];exact Ev.now _
theorem ver_dec (p : Int) (K M L : Nat) (data Q : List (List Int)) (hmay : aDz.f p (K : Int) (M : Int) = some true) (hK : data.length = K) (hL : L <= 1000000) (hd : L % wN (pbits p) = 0) (hr : ∀ r, r ∈ data -> r.length = L) (hQ : Q.length = M) :
  Ev (fun k=>dez.f k p (K:Int) (M:Int) (data++Q)) (decide (parV L p K M data=Q)):=by
 have h1:=par_ev p K M L data hmay hK hL hd hr;have hl:=parV_len L p K M data hmay;obtain ⟨p1,p2,k1,k2,m1,m2⟩:=cvz hmay
 have h2:=eqFunc_dec (parV L p K M data) Q (by omega) (fun x hx=>by
  unfold parV at hx;obtain ⟨c, -,rfl⟩:=List.mem_map.1 hx
  rw [dotV_len hd hr];omega)
 have ht:(data++Q).take K=data:=by rw [<-hK,List.take_left'];rfl
 have hdr:(data++Q).drop K=Q:=by rw [<-hK,List.drop_left'];rfl
 refine Ev.congr (f:=fun k=>(aLz.f k p (K:Int) (M:Int) data).bind fun t=>if t.2=0 then eqFunc k t.1 Q else some false) (fun k=> ?_) ?_
 ·unfold dez.f;rw [hmay,Zl,Ya rfl,Ya (by rw [List.length_append,hK,hQ];omega),Zu,ht,hdr]
 ·refine Ev.bind h1 ?_;refine Ev.congr (fun k=> ?_) h2;rw [Ya rfl]
theorem ezz: ∀b,b<13->Go.bits .xor .i64 0 ((b:Nat):Int)=(b:Int):=by decide+kernel
def mayQ (q:Int) (K M:Nat):Bool:=aDz.f q (K:Int) (M:Int)==some true
def verB (S:Nat) (q:Int) (K M:Nat) (L:List (List Int)):Bool:=decide (parV S q K M (L.take K)=L.drop K)
def longB (S:Nat) (q:Int):Bool:=decide (0<S)&&decide (S % unitN q=0)
def passB (S:Nat) (q:Int) (K M:Nat) (L:List (List Int)):Bool:=mayQ q K M&&(longB S q&&verB S q K M L)
theorem six {q:Int} (h1:1<=q) (h2:q<=6):q=1\/q=2\/q=3\/q=4\/q=5\/q=6:=by omega
theorem unit_even {q:Int} (h1:1<=q) (h2:q<=6) {S:Nat} (h:S % unitN q=0):S % wN (pbits q)=0:=by
 have one: ∀p:Int,wN (pbits p)=1->S % wN (pbits p)=0:=fun p hp=>by rw [hp];exact Nat.mod_one S
 rcases six h1 h2 with rfl|rfl|rfl|rfl|rfl|rfl
 ·exact one 1 rfl
 ·have e1:wN (pbits 2)=2:=rfl;have e2:S % 8=0:=h;rw [e1];omega
 ·exact one 3 rfl
 ·exact one 4 rfl
 ·exact one 5 rfl
 ·exact one 6 rfl
theorem size_unit {q:Int} (h1:1<=q) (h2:q<=6):sizeN q 8 0=unitN q/\aDz.f q ((8:Nat):Int) ((1:Nat):Int)=some true:=by
 rcases six h1 h2 with rfl|rfl|rfl|rfl|rfl|rfl<;>exact ⟨rfl,rfl⟩
theorem long_ev (S:Nat) (q K:Int) (h1:1<=q) (h2:q<=6) (L:List (List Int)) (h0:0<L.length) (hS:(rd_L1 L 0).length=S):Ev (fun k=>cQz.f k L K q) (longB S q):=by
 obtain ⟨e1,e2⟩:=size_unit h1 h2;have hs:=size_ev q 8 1 0 e2 (by omega);rw [e1] at hs;have hu:=unitN_bd q;refine Ev.congr (f:=fun k=>(bzz.f k q ((8:Nat):Int) ((1:Nat):Int) ((0:Nat):Int)).bind fun bt=>if (S:Int)>0 then (if bt.1=0 then none else some (((S:Int) % bt.1)==0)) else some false) (fun k=> ?_) ?_
 ·unfold cQz.f;rw [Ya (by omega),hS];rfl
 ·refine Ev.bind hs ?_;refine Ev.congr (f:=fun _=>some (longB S q)) (fun k=> ?_) (Ev.now _);dsimp only;unfold longB;by_cases hz:0<S
  ·rw [Ya (by omega),Yb (by omega),Zd hz,Bool.true_and];congr 1
   have e3:((S:Int) % (unitN q:Int))=((S % unitN q:Nat):Int):=by omega
   rw [e3];generalize S % unitN q=m;by_cases hm:m=0
   ·rw [hm];rfl
   ·rw [Ze hm];exact Zq (by omega)
  ·rw [Yb (by omega),Ze hz];rfl
theorem pass_ev (q:Int) (K M S:Nat) (h1:1<=q) (h2:q<=6) (L:List (List Int)) (hL:L.length=K+M) (hbig:K+M<=1000000) (h0:0<K+M) (hr: ∀r,r∈L->r.length=S) (hS:S<=1000000):Ev (fun k=>ckz.f k L (K:Int) q) (passB S q K M L):=by
 have hw:wrap64 ((L.length:Int) - (K:Int))=(M:Int):=by rw [hL];unfold wrap64;omega
 have hrd:(rd_L1 L 0).length=S:=by
  unfold rd_L1;rw [show Int.toNat 0=0 from rfl,Zm,Zf (by omega)];exact hr _ (List.getElem_mem _)
 have hlo:=long_ev S q (K:Int) h1 h2 L (by omega) hrd;refine Ev.congr (f:=fun k=>(aDz.f q (K:Int) (M:Int)).bind fun t852=>(if t852=true then ((cQz.f k L (K:Int) q).bind fun t853=>(if t853=true then ((dez.f k q (K:Int) (M:Int) L).bind fun t854=>(some t854)) else (some false))) else (some false))) (fun k=> ?_) ?_
 ·unfold ckz.f dYz.f;rw [Zl,hw]
 obtain ⟨b,hb⟩:=may_some q (K:Int) (M:Int);unfold passB mayQ;simp only [hb,Zl]
 cases b with
 |false=>exact Ev.now _
 |true=>
  refine Ev.congr (f:=fun k=>(cQz.f k L (K:Int) q).bind fun t853=>(if t853=true then ((dez.f k q (K:Int) (M:Int) L).bind fun t854=>(some t854)) else (some false))) (fun k=>by rw [Ya rfl]) ?_;refine Ev.bind hlo ?_
  cases hlb:longB S q with
  |false=>
   refine Ev.congr (fun k=> ?_) (Ev.now _);rw [Yb (by decide)];rfl
  |true=>
   unfold longB at hlb;simp only [Bool.and_eq_true,decide_eq_true_eq] at hlb;have hv:=ver_dec q K M S (L.take K) (L.drop K) hb (by rw [List.length_take];omega) hS (unit_even h1 h2 hlb.2) (fun r hr'=>hr r (List.mem_of_mem_take hr')) (by rw [List.length_drop];omega);rw [List.take_append_drop] at hv;refine Ev.congr (f:=fun k=>(dez.f k q (K:Int) (M:Int) L).bind fun t854=>(some t854)) (fun k=>by rw [Ya rfl]) ?_;refine Ev.bind hv ?_;refine Ev.congr (fun k=> ?_) (Ev.now _);rfl
theorem trial_l_ev (L:List (List Int)) (K:Int) (b:Int->Bool): ∀(ps acc:List Int),(∀q,q∈ps->Ev (fun k=>ckz.f k L K q) (b q))->Ev (fun k=>b3z.l k L K ps acc) (acc++ps.filter b)
 | [],acc,_=>by
  refine Ev.congr (fun k=> ?_) (Ev.now _);rw [b3z.l];simp
 |p::ps,acc,h=>by
  refine Ev.congr (f:=fun k=>(ckz.f k L K p).bind fun t=>b3z.l k L K ps (if t=true then acc++ [p] else acc)) (fun k=>by rw [b3z.l]) ?_;refine Ev.bind (h p (List.mem_cons_self ..)) ?_;have ih:=trial_l_ev L K b ps (if b p=true then acc++ [p] else acc) (fun q hq=>h q (List.mem_cons_of_mem _ hq))
  cases hp:b p with
  |true=>
   rw [hp,Ya rfl] at ih;rw [List.filter_cons_of_pos hp,Ya rfl];rwa [List.append_assoc] at ih
  |false=>
   rw [hp,Yb (by decide)] at ih;rw [List.filter_cons_of_neg (by rw [hp];decide),Yb (by decide)];exact ih
def all6:List Int:= [1,2,3,4,5,6]
theorem all_ev:Ev (fun k=>bSz.f k) all6:=Ev.of (fun k=>bSz.mono k) (k:=8) kr_
theorem all6_mem {q:Int} :q∈all6↔1<=q/\q<=6:=by
 unfold all6;simp only [List.mem_cons,List.not_mem_nil,or_false];omega
theorem trial_ev (L:List (List Int)) (K:Int) (b:Int->Bool) (h: ∀q,1<=q->q<=6->Ev (fun k=>ckz.f k L K q) (b q)):Ev (fun k=>b3z.f k L K) (all6.filter b):=by
 unfold b3z.f;refine Ev.bind all_ev ?_;refine Ev.congr (f:=fun k=>b3z.l k L K all6 []) (fun k=>by rw [Ya (by decide)]) ?_;have:=trial_l_ev L K b all6 [] (fun q hq=>h q (all6_mem.1 hq).1 (all6_mem.1 hq).2);rwa [List.nil_append] at this
theorem trial_ev2 (K M S:Nat) (L:List (List Int)) (hL:L.length=K+M) (hbig:K+M<=1000000) (h0:0<K+M) (hr: ∀r,r∈L->r.length=S) (hS:S<=1000000):Ev (fun k=>b3z.f k L (K:Int)) (all6.filter fun q=>passB S q K M L):=
 trial_ev L (K:Int) _ (fun q h1 h2=>pass_ev q K M S h1 h2 L hL hbig h0 hr hS)
theorem rin_f (k:Nat) {wb:Int} (hw:wb=8\/wb=16) (a:Int):afz.f k wb a=some (inF wb a):=by
 unfold afz.f;rw [Ya hw]
theorem rmul2_f (k:Nat) {wb:Int} (hw:wb=8\/wb=16) (a b:Int):axz.f k wb (fpoly wb) a b=some (gmul wb a b):=by
 unfold axz.f;rw [rin_f k hw a,Zl];by_cases ha:inF wb a=true
 ·rw [Ya ha,rin_f k hw b,Zl];by_cases hb:inF wb b=true
  ·have hlt:=bQz hw a b;have e:gmul wb a b=((gmN wb a.toNat b.toNat:Nat):Int):=by unfold gmul;rw [ha,hb];rfl
   have hf:=dAz hw;rw [Ya hb];unfold inF at ha hb;simp only [Bool.and_eq_true,decide_eq_true_eq] at ha hb;have e1:a % 4294967296=a:=by omega
   have e2:b % 4294967296=b:=by omega
   rw [e1,e2]
   have hm:aFz.f k a b (fpoly wb)=some (gmul wb a b):=by
    rw [e];unfold aFz.f gmN;rcases hw with rfl|rfl
    ·rw [Ya ⟨rfl,by unfold inF;simp;omega,by unfold inF;simp;omega⟩,Ya rfl]
    ·rw [Yb (fun h=>Yf h.1 (by decide)),Ya ⟨rfl,by unfold inF;simp;omega,by unfold inF;simp;omega⟩,Yb (by decide)]
   rw [hm,Zl,w64 (by omega) (by omega)]
  ·rw [Yb hb,gmul_out (by simp [hb])]
 ·rw [Yb ha,gmul_out (by simp [ha])]
theorem bMz (n:List Nat):(castN n).length=n.length:=by unfold castN;rw [List.length_map]
theorem e7z (a b:List Nat):castN (a++b)=castN a++castN b:=by unfold castN;rw [List.map_append]
theorem erz (n:List Nat) (i:Nat) (x:Nat) (h:n[i]?=some x):rd (castN n) (i:Int)=(x:Int):=by
 unfold rd castN;rw [Zu,Zm,List.getElem?_map,h];rfl
theorem rwords8_l (n:List Nat) (hb: ∀x,x∈n->x<256) (hl:n.length<=1000000): ∀(m i:Nat),i+m=n.length->Ev (fun k=>aWz.l0 k (castN n) (castN (n.take i)) 1 (i:Int)) (castN n,true):=by
 intro m
 induction m with
 |zero=>
  intro i hi;refine Ev.step (f:=fun _=>some (castN n,true)) (fun k=> ?_) (Ev.now _);rw [aWz.l0,bMz,w64 (by omega) (by omega),Yb (by omega),Yb (by decide),List.take_of_length_le (by omega)];congr 2
  simp
 |succ m ih=>
  intro i hi;obtain ⟨x,hx⟩: ∃x,n[i]?=some x:=⟨_,Zf (by omega)⟩;have hx8:=hb x (Zo hx);refine Ev.step (fun k=> ?_) (ih (i+1) (by omega));rw [aWz.l0,bMz,w64 (x:=(i:Int)+1) (by omega) (by omega),Ya (by omega),Ya (by omega),Ya (by omega),Yb (by decide),bMz,Ya (by rw [List.length_take];omega),erz n i x hx,w64 (x:=(x:Int)) (by omega) (by omega),List.take_add_one,hx,e7z,show ((i:Int)+1)=((i+1:Nat):Int) by omega];rfl
theorem rwords16_l (n:List Nat) (hb: ∀x,x∈n->x<256) (hl:n.length<=1000000) (he:n.length % 2=0): ∀(m j:Nat),2*j+2*m=n.length->Ev (fun k=>aWz.l0 k (castN n) (castN (pairN (n.take (2*j)))) 2 ((2*j:Nat):Int)) (castN (pairN n),true):=by
 intro m
 induction m with
 |zero=>
  intro j hj;refine Ev.step (f:=fun _=>some (castN (pairN n),true)) (fun k=> ?_) (Ev.now _);rw [aWz.l0,bMz,w64 (by omega) (by omega),Yb (by omega),Yb (by decide),List.take_of_length_le (by omega)];congr 2
  have:(n.length:Int) % 2=0:=by omega
  rw [this];rfl
 |succ m ih=>
  intro j hj;obtain ⟨x,hx⟩: ∃x,n[2*j]?=some x:=⟨_,Zf (by omega)⟩;obtain ⟨y,hy⟩: ∃y,n[2*j+1]?=some y:=⟨_,Zf (by omega)⟩;have hx8:=hb x (Zo hx);have hy8:=hb y (Zo hy)
  have e3:n.take (2*(j+1))=n.take (2*j)++ [x,y] :=by
   rw [show 2*(j+1)=2*j+1+1 by omega,List.take_add_one,List.take_add_one,hx,hy];simp
  have hpl:(pairN (n.take (2*j))).length<=1000000:=by rw [eMz,List.length_take];omega
  refine Ev.step (fun k=> ?_) (ih (j+1) (by omega));rw [aWz.l0,bMz,w64 (x:=((2*j:Nat):Int)+2) (by omega) (by omega),w64 (x:=((2*j:Nat):Int)+1) (by omega) (by omega),Ya (by omega),Ya (by omega),Ya (by omega),Ya rfl,Ya (by omega),Ya (by omega),bMz,Ya (by omega),erz n (2*j) x hx,show (((2*j:Nat):Int)+1)=((2*j+1:Nat):Int) by omega,erz n (2*j+1) y hy,w64 (x:=(x:Int)) (by omega) (by omega),w64 (x:=(y:Int)) (by omega) (by omega),w64 (x:=256*(y:Int)) (by omega) (by omega),w64 (x:=(x:Int)+256*(y:Int)) (by omega) (by omega),show (((2*j:Nat):Int)+2)=((2*(j+1):Nat):Int) by omega,e3,e6z x y _ (by rw [List.length_take];omega),e7z];congr 2
theorem rwords_ev {wb:Int} (hw:wb=8\/wb=16) (n:List Nat) (hb: ∀x,x∈n->x<256) (hl:n.length<=1000000) (he:n.length % wN wb=0):Ev (fun k=>aWz.f k wb (castN n)) (castN (if wb=8 then n else pairN n),true):=by
 rcases hw with rfl|rfl
 ·rw [Ya rfl];refine Ev.congr (fun k=> ?_) (rwords8_l n hb hl n.length 0 (by omega));unfold aWz.f;rw [show wrap64 (Int.tdiv 8 8)=1 by show wrap64 1=1;unfold wrap64;omega];rfl
 ·rw [Yb (by decide)];refine Ev.congr (fun k=> ?_) (rwords16_l n hb hl he (n.length / 2) 0 (by have:n.length % 2=0:=he;omega));unfold aWz.f;rw [show wrap64 (Int.tdiv 16 8)=2 by show wrap64 2=2;unfold wrap64;omega];simp [castN,pairN]
theorem rbytes8_l (n:List Nat) (hb: ∀x,x∈n->x<256) (hl:n.length<=1000000): ∀(m i:Nat),i+m=n.length->Ev (fun k=>aXz.l0 k 8 (castN n) (castN (n.take i)) (i:Int)) (castN n,true):=by
 intro m
 induction m with
 |zero=>
  intro i hi;refine Ev.step (f:=fun _=>some (castN n,true)) (fun k=> ?_) (Ev.now _);rw [aXz.l0,bMz,Yb (by omega),List.take_of_length_le (by omega)]
 |succ m ih=>
  intro i hi;obtain ⟨x,hx⟩: ∃x,n[i]?=some x:=⟨_,Zf (by omega)⟩;have hx8:=hb x (Zo hx);have hin:inF 8 (x:Int)=true:=by unfold inF;rw [show fsize 8=256 from rfl];simp;omega
  refine Ev.step (fun k=> ?_) (ih (i+1) (by omega));rw [aXz.l0,bMz,Ya (by omega),Ya (by omega),erz n i x hx,rin_f k (.inl rfl),Zl,Ya hin,bMz,Ya (by rw [List.length_take];omega),Zl,Yb (by decide),w64 (by omega) (by omega),List.take_add_one,hx,e7z,show ((i:Int)+1)=((i+1:Nat):Int) by omega,Int.tmod_eq_emod_of_nonneg (by omega),show ((x:Int) % 256 % 256)=(x:Int) by omega];rfl
theorem flatN_snoc (x:Nat): ∀l:List Nat,flatN (l++ [x])=flatN l++flatN [x]
 | [] =>rfl
 |y::l=>by
  have:=flatN_snoc x l;simp only [List.cons_append,flatN] at this|-;rw [this]
theorem flatN_len: ∀l:List Nat,(flatN l).length=2*l.length
 | [] =>rfl
 |y::l=>by
  have:=flatN_len l;simp only [flatN,List.length_cons] at this|-;omega
theorem rbytes16_l (n:List Nat) (hb: ∀x,x∈n->x<65536) (hl:n.length<=1000000): ∀(m i:Nat),i+m=n.length->Ev (fun k=>aXz.l0 k 16 (castN n) (castN (flatN (n.take i))) (i:Int)) (castN (flatN n),true):=by
 intro m
 induction m with
 |zero=>
  intro i hi;refine Ev.step (f:=fun _=>some (castN (flatN n),true)) (fun k=> ?_) (Ev.now _);rw [aXz.l0,bMz,Yb (by omega),List.take_of_length_le (by omega)]
 |succ m ih=>
  intro i hi;obtain ⟨x,hx⟩: ∃x,n[i]?=some x:=⟨_,Zf (by omega)⟩;have hx8:=hb x (Zo hx);have hin:inF 16 (x:Int)=true:=by unfold inF;rw [show fsize 16=65536 from rfl];simp;omega
  have hfl:=flatN_len (n.take i);rw [List.length_take] at hfl
  have e5:castN (flatN [x])= [(x:Int) % 256 % 256] ++ [(x:Int) / 256 % 256] :=by
   simp only [castN,flatN,List.map_cons,List.map_nil,List.cons_append,List.nil_append];rw [show ((x % 256:Nat):Int)=(x:Int) % 256 % 256 by omega,show ((x / 256 % 256:Nat):Int)=(x:Int) / 256 % 256 by omega]
  refine Ev.step (fun k=> ?_) (ih (i+1) (by omega));rw [aXz.l0,bMz,Ya (by omega),Ya (by omega),erz n i x hx,rin_f k (.inr rfl),Zl,Ya hin,bMz,Ya (by omega),Zl,Ya rfl,List.length_append,bMz,Ya (by simp;omega),w64 (x:=(i:Int)+1) (by omega) (by omega),Int.tdiv_eq_ediv_of_nonneg (by omega),w64 (x:=(x:Int) / 256) (by omega) (by omega),List.take_add_one,hx,Option.toList_some,flatN_snoc,e7z,show ((i:Int)+1)=((i+1:Nat):Int) by omega,Int.tmod_eq_emod_of_nonneg (by omega),List.append_assoc,e5]
theorem rbytes_ev {wb:Int} (hw:wb=8\/wb=16) (n:List Nat) (hb: ∀x,x∈n->(x:Int)<fsize wb) (hl:n.length<=1000000):Ev (fun k=>aXz.f k wb (castN n)) (castN (if wb=8 then n else flatN n),true):=by
 rcases hw with rfl|rfl
 ·rw [Ya rfl];refine Ev.congr (fun k=>by unfold aXz.f;simp [castN]) (rbytes8_l n (fun x hx=>by have:=hb x hx;rw [show fsize 8=256 from rfl] at this;omega) hl n.length 0 (by omega))
 ·rw [Yb (by decide)]
  have h65: ∀x,x∈n->x<65536:=fun x hx=>by
   have:=hb x hx;rw [fsize16] at this;omega
  have h:=rbytes16_l n h65 hl n.length 0 (by omega);unfold aXz.f;exact h
theorem rmul3_l {wb : Int} (hw : wb = 8 \/ wb = 16) (c : Int) (n : List Nat) (hl : n.length <= 1000000) (r : List Int × Bool) (hr : Ev (fun k => (aXz.f k wb (castN (mapN (mN wb c) n))).bind fun t => some (t.1, t.2)) r) :
  ∀(m i:Nat),i+m=n.length->Ev (fun k=>a2z.l0 k wb (fpoly wb) c (castN n) (castN (mapN (mN wb c) (n.take i))) (i:Int)) r:=by
 intro m
 induction m with
 |zero=>
  intro i hi;refine Ev.step (fun k=> ?_) hr;rw [a2z.l0,bMz,Yb (by omega),List.take_of_length_le (by omega)]
 |succ m ih=>
  intro i hi;obtain ⟨x,hx⟩: ∃x,n[i]?=some x:=⟨_,Zf (by omega)⟩;have hg:=bQz hw c (x:Int);refine Ev.step (fun k=> ?_) (ih (i+1) (by omega));rw [a2z.l0,bMz,Ya (by omega),Ya (by omega),erz n i x hx,rmul2_f k hw,Zl,bMz,Ya (by unfold mapN;rw [List.length_map,List.length_take];omega),w64 (by omega) (by omega),show ((i:Int)+1)=((i+1:Nat):Int) by omega,List.take_add_one,hx];congr 2
  unfold mapN castN mN;simp;omega
theorem rmul3_ev {wb:Int} (hw:wb=8\/wb=16) (c:Int) (hc:inF wb c=true) (n:List Nat) (hb: ∀x,x∈n->x<256) (hl:n.length<=1000000) (he:n.length % wN wb=0):Ev (fun k=>a2z.f k wb (fpoly wb) c (castN n)) (castN (mulN wb c n),true):=by
 refine Ev.bind (rwords_ev hw n hb hl he) ?_;refine Ev.congr (fun k=>by rw [Ya rfl,rin_f k hw,Zl,hc]) ?_;refine Ev.step (fun k=>by rw [a2z.j0,Yb (by decide)]) ?_;obtain ⟨q,hq⟩: ∃q,(if wb=8 then n else pairN n)=q:=⟨_,rfl⟩
 have hql:q.length<=1000000:=by
  rw [<-hq];split
  ·exact hl
  ·rw [eMz];omega
 have hml: ∀x,x∈mapN (mN wb c) q->(x:Int)<fsize wb:=by
  intro x hx;unfold mapN at hx;obtain ⟨y,hy,rfl⟩:=List.mem_map.1 hx;have:=bQz hw c (y:Int);unfold mN;omega
 have hB:=rbytes_ev hw (mapN (mN wb c) q) hml (by unfold mapN;rw [List.length_map];exact hql)
 have hfin:castN (mulN wb c n)=castN (if wb=8 then mapN (mN wb c) q else flatN (mapN (mN wb c) q)):=by
  unfold mulN;rcases hw with rfl|rfl
  ·rw [Ya rfl,Ya rfl, <-hq,Ya rfl]
  ·rw [Yb (by decide),Yb (by decide), <-hq,Yb (by decide)]
 rw [hq,hfin];exact rmul3_l hw c q hql _ (Ev.bind hB (Ev.now _)) q.length 0 (by omega)
theorem radd_l (a b:List Int) (hl:a.length=b.length) (hm:a.length<=1000000): ∀(m i:Nat),i+m=a.length->Ev (fun k=>aHz.l0 k a b ((xorB a b).take i) (i:Int)) (xorB a b,true):=by
 have hxl:(xorB a b).length=a.length:=by rw [dBz a b hl,hl]
 intro m
 induction m with
 |zero=>
  intro i hi;refine Ev.step (f:=fun _=>some (xorB a b,true)) (fun k=> ?_) (Ev.now _);rw [aHz.l0,Yb (by omega),List.take_of_length_le (by omega)]
 |succ m ih=>
  intro i hi;have hia:i<a.length:=by omega
  have hib:i<b.length:=by omega
  have e1:rd a (i:Int)=a[i] :=by unfold rd;rw [Zu,Zm,Zf hia];rfl
  have e2:rd b (i:Int)=b[i] :=by unfold rd;rw [Zu,Zm,Zf hib];rfl
  have e3:(xorB a b)[i]?=some (Go.bits .xor .u8 a[i] b[i]):=by
   unfold xorB;rw [List.getElem?_zipWith,Zf hia,Zf hib]
  refine Ev.step (fun k=> ?_) (ih (i+1) (by omega));rw [aHz.l0,Ya (by omega),Ya (by omega),Ya (by omega),Ya (by rw [List.length_take];omega),e1,e2,w64 (by omega) (by omega),show ((i:Int)+1)=((i+1:Nat):Int) by omega,List.take_add_one,e3];rfl
theorem radd_ev (a b:List Int) (hl:a.length=b.length) (hm:a.length<=1000000):Ev (fun k=>aHz.f k a b) (xorB a b,true):=by
 refine Ev.congr (fun k=> ?_) (radd_l a b hl hm a.length 0 (by omega));unfold aHz.f;rw [Ya (by omega)];rfl
theorem rp1_1: ∀m,m<4->acz.f 3000 8 285 1 ((m+1:Nat):Int)=some (jvM 8 1 (m+1),true):=by decide+kernel
theorem rp1_2: ∀m,m<4->acz.f 3000 8 285 2 ((m+1:Nat):Int)=some (jvM 8 2 (m+1),true):=by decide+kernel
theorem rp1_3: ∀m,m<4->acz.f 3000 8 285 3 ((m+1:Nat):Int)=some (jvM 8 3 (m+1),true):=by decide+kernel
theorem rp1_4: ∀m,m<4->acz.f 3000 8 285 4 ((m+1:Nat):Int)=some (jvM 8 4 (m+1),true):=by decide+kernel
theorem rp1_5: ∀m,m<4->acz.f 3000 8 285 5 ((m+1:Nat):Int)=some (jvM 8 5 (m+1),true):=by decide+kernel
theorem rp1_6: ∀m,m<4->acz.f 3000 8 285 6 ((m+1:Nat):Int)=some (jvM 8 6 (m+1),true):=by decide+kernel
theorem rp1_7: ∀m,m<4->acz.f 3000 8 285 7 ((m+1:Nat):Int)=some (jvM 8 7 (m+1),true):=by decide+kernel
theorem rp1_8: ∀m,m<4->acz.f 3000 8 285 8 ((m+1:Nat):Int)=some (jvM 8 8 (m+1),true):=by decide+kernel
theorem rpar_1 (K M:Nat) (h1:1<=K) (h2:K<=8) (h3:1<=M) (h4:M<=4):acz.f 3000 8 285 (K:Int) (M:Int)=some (jvM 8 K M,true):=by
 obtain ⟨m,rfl⟩: ∃m,M=m+1:=⟨M - 1,by omega⟩;have hk:K=1\/K=2\/K=3\/K=4\/K=5\/K=6\/K=7\/K=8:=by omega
 rcases hk with rfl|rfl|rfl|rfl|rfl|rfl|rfl|rfl
 ·exact rp1_1 m (by omega)
 ·exact rp1_2 m (by omega)
 ·exact rp1_3 m (by omega)
 ·exact rp1_4 m (by omega)
 ·exact rp1_5 m (by omega)
 ·exact rp1_6 m (by omega)
 ·exact rp1_7 m (by omega)
 ·exact rp1_8 m (by omega)
end Go.Proofs.Xc
end
