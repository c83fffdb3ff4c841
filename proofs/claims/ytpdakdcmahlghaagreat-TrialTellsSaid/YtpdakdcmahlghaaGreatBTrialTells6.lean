-- Joined texts of this work (wip/tools/bundle.py).
import Derived.Laws.BitsAllLaws
import Derived.Maps.OwnSet
import Derived.Maps.Views
import Derived.RangeFuncOwn
import Derived.Test.YtpdakdcmahlghaaGreatBTrialTells5
set_option maxHeartbeats 4000000
set_option maxRecDepth 100000
set_option linter.unusedVariables false
set_option linter.unusedSimpArgs false
section
namespace Go.Proofs.Xc
open Go.RowKit Go.Proofs.Pw Go.Proofs.Pl Go.Proofs.Pm
attribute [local go_sem] bcz bdz bpz bqz a4z a5z bez bfz
theorem ofInt64 (a:Nat) (ha:a<9223372036854775808):(BitVec.ofInt 64 (a:Int)).toNat=a:=by
 rw [BitVec.ofInt_natCast,BitVec.toNat_ofNat];exact Nat.mod_eq_of_lt (by omega)
theorem i64_and1 (a:Nat) (ha:a<9223372036854775808):Go.bits .and .i64 (a:Int) 1=((a % 2:Nat):Int):=by
 show IntKind.i64.wrap ((BitVec.ofInt 64 (a:Int)&&&BitVec.ofInt 64 (1:Int)).toNat:Int)=_;rw [BitVec.toNat_and,ofInt64 a ha,show (1:Int)=((1:Nat):Int) from rfl,ofInt64 1 (by omega),Nat.and_one_is_mod,IntKind.wrap_i64];omega
theorem gmN_assoc {wb:Int} (hw:wb=8\/wb=16) {a b:Nat} (ha:(a:Int)<fsize wb) (hb:(b:Int)<fsize wb) (c:Nat):gmN wb (gmN wb a b) c=gmN wb a (gmN wb b c):=by
 rcases hw with rfl|rfl
 ·exact gf8.toGf.assoc (by simp [fsize] at ha;omega) (by simp [fsize] at hb;omega) c
 ·exact gf16.toGf.assoc (by simp [fsize] at ha;omega) (by simp [fsize] at hb;omega) c
theorem gpwN_zero (wb:Int) (a:Nat):gpwN wb a 0=1:=by unfold gpwN;split<;>rfl
theorem gpwN_even {wb:Int} (hw:wb=8\/wb=16) {a:Nat} (ha:(a:Int)<fsize wb) (n:Nat):gpwN wb (gmN wb a a) n=gpwN wb a (2*n):=by
 rcases hw with rfl|rfl
 ·exact gf8.toGf.gp_sq (by simp [fsize] at ha;omega) n
 ·exact gf16.toGf.gp_sq (by simp [fsize] at ha;omega) n
theorem gpwN_lt {wb:Int} (hw:wb=8\/wb=16) {a:Nat} (ha:(a:Int)<fsize wb) (n:Nat):(gpwN wb a n:Int)<fsize wb:=by
 rcases hw with rfl|rfl
 ·have:=gf8.toGf.gp_lt (a:=a) (by simp [fsize] at ha;omega) n;simp only [gpwN,fsize,if_true];omega
 ·have:=gf16.toGf.gp_lt (a:=a) (by simp [fsize] at ha;omega) n;simp only [gpwN,fsize,show¬((16:Int)=8) by decide,if_false];omega
theorem gpwN_odd {wb:Int} (hw:wb=8\/wb=16) {a:Nat} (ha:(a:Int)<fsize wb) (n:Nat):gmN wb a (gpwN wb (gmN wb a a) n)=gpwN wb a (2*n+1):=by
 rw [gpwN_even hw ha];rcases hw with rfl|rfl
 ·exact gf8.toGf.comm (by simp [fsize] at ha;omega) (gf8.toGf.gp_lt (by simp [fsize] at ha;omega) _)
 ·exact gf16.toGf.comm (by simp [fsize] at ha;omega) (gf16.toGf.gp_lt (by simp [fsize] at ha;omega) _)
theorem gmN_one {wb:Int} (hw:wb=8\/wb=16) {a:Nat} (ha:(a:Int)<fsize wb):gmN wb 1 a=a:=by
 rcases hw with rfl|rfl
 ·exact gf8.toGf.dPz (by simp [fsize] at ha;omega)
 ·exact gf16.toGf.dPz (by simp [fsize] at ha;omega)
theorem gmul_in {wb a b:Int} (ha:0<=a) (ha':a<fsize wb) (hb:0<=b) (hb':b<fsize wb):gmul wb a b=(gmN wb a.toNat b.toNat:Int):=by
 unfold gmul;rw [Ya (by simp [inF];omega)]
theorem gpow_out {wb a n:Int} (h:(inF wb a&&decide (0<=n))=false):gpow wb a n=0:=by simp [gpow,h]
def PowRel (wb:Int) (R:Nat) (o x:Int) (m:Nat):Prop:=0<=o/\o<fsize wb/\0<=x/\x<fsize wb/\gmN wb o.toNat (gpwN wb x.toNat m)=R
theorem PowRel.even {wb:Int} (hw:wb=8\/wb=16) {R:Nat} {o x:Int} {m:Nat} (h:PowRel wb R o x m) (he:m % 2=0):PowRel wb R o (gmul wb x x) (m / 2):=by
 obtain ⟨h1,h2,h3,h4,h5⟩:=h;have hr:=bRz hw x x;refine ⟨h1,h2,hr.1,hr.2,?_⟩;rw [gmul_in h3 h4 h3 h4,Zu,gpwN_even hw (by omega),show 2*(m / 2)=m by omega];exact h5
theorem PowRel.odd {wb:Int} (hw:wb=8\/wb=16) {R:Nat} {o x:Int} {m:Nat} (h:PowRel wb R o x m) (he:m % 2=1):PowRel wb R (gmul wb o x) (gmul wb x x) (m / 2):=by
 obtain ⟨h1,h2,h3,h4,h5⟩:=h;have hr:=bRz hw x x;have hr':=bRz hw o x;refine ⟨hr'.1,hr'.2,hr.1,hr.2,?_⟩;rw [gmul_in h1 h2 h3 h4,gmul_in h3 h4 h3 h4,Zu,Zu,gmN_assoc hw (by omega) (by omega),gpwN_odd hw (by omega),show 2*(m / 2)+1=m by omega];exact h5
theorem PowRel.done {wb:Int} (hw:wb=8\/wb=16) {R:Nat} {o x:Int} (h:PowRel wb R o x 0):o=(R:Int):=by
 obtain ⟨h1,h2,h3,h4,h5⟩:=h;rw [gpwN_zero] at h5
 have:gmN wb o.toNat 1=o.toNat:=by
  rcases hw with rfl|rfl
  ·exact gf8.toGf.one_right (by simp [fsize] at h2;omega)
  ·exact gf16.toGf.one_right (by simp [fsize] at h2;omega)
 omega
theorem PowRel.start {wb:Int} (hw:wb=8\/wb=16) {a:Int} {n:Nat} (ha:0<=a) (ha':a<fsize wb):PowRel wb (gpwN wb a.toNat n) 1 a n:=
 ⟨by omega,by rcases hw with rfl|rfl<;>decide,ha,ha',gmN_one hw (gpwN_lt hw (by omega) _)⟩
theorem gf_Pow.calls (g : Nat) (S : Nat -> Prop) (wb a : Int) (n : Nat) (W : World) (hn : n <= 1000000) (hw : wb = 8 \/ wb = 16) (hF : Fd W g wb (fpoly wb) S) (hS : ∀ k, S k -> k < W.heap.size) :
  Calls Tryz.prog 122 #[.pointer (some ⟨g,0,none⟩), .int .i64 a, .int .i64 (n:Int)] W fun e w'=>e= .returned (.int .i64 (gpow wb a n))/\Fd w' g wb (fpoly wb) S/\BB W w' g:=by
 have HC:=Za (gf_in.calls g wb (fpoly wb) S (some ⟨W.heap.size,0,none⟩) 1 [a] _ (hF.alloc (.cells #[.int .i64 a] 3)) hw (C_nums (t:=3) (heap_alloc_new _ _) (by simp)) (by simp));rw [allIn_one] at HC;have HF:=Za (hF.alloc (.cells #[.int .i64 a] 3));have HB:=Za ((BB.refl W g).alloc (.cells #[.int .i64 a] 3));have HS:=Za hS;have HW:=Za hw;clear hF hS hw;have n0:(0:Int)<=(n:Int):=by omega
 have n1:decide ((n:Int)<0)=false:=Ze (by omega);by_cases hin:inF wb a=true
 ·have hg:gpow wb a n=((gpwN wb a.toNat n:Nat):Int):=by simp [gpow,hin]
  have hr:0<=a/\a<fsize wb:=by simpa [inF] using hin
  rw [hin] at HC;rw [hg];have HR:=Za (PowRel.start (n:=n) HW.out hr.1 hr.2);generalize gpwN wb a.toNat n=R at HR;clear hin hg hr;go_enter Tryz.func122,Tryz.ntmps122
  go_wp2_with (first|(go_at_call 151;refine HC.out.mono ?_;rintro e w9 ⟨rfl,m9,rfl⟩))
  go_loopw [7,1,2] (fun o x m wr=> ∃(o1 x1:Int) (m1:Nat),o= .int .i64 o1/\x= .int .i64 x1/\m= .int .i64 (m1:Int)/\m1<=1000000/\Aside0 (PowRel wb R o1 x1 m1)/\Aside0 (Fd wr g wb (fpoly wb) S)/\Aside0 (BB W wr g)) (fun _ _ m _=>(intOf m).toNat)
  case atStart=>exact ⟨1,a,n,rfl,rfl,rfl,hn,HR,⟨HF.out.drewN _⟩,⟨HB.out.drewN _⟩⟩
  clear HR HF HB HC n0 n1 hn;obtain ⟨o1,x1,m1,rfl,rfl,rfl,hm,HR,HF,HB⟩:=hrel;by_cases hpos:0<m1
  ·have p0:(0:Int)<(m1:Int):=by omega
   have HM:=Za<|fun (y:Int) (wq:World) (hq:Fd wq g wb (fpoly wb) S) (hb:BB W wq g)=>cHz.calls g S wb y x1 wq HW.out hq (fun k hk=>Zp (HS.out k hk) hb.size)
   by_cases hodd:m1 % 2=1
   ·have HR1:=Za (HR.out.odd HW.out hodd);have hand:(Go.bits .and .i64 (m1:Int) 1==1)=true:=by rw [i64_and1 m1 (by omega),hodd];rfl
    clear hodd
    go_wp2_with (first|(go_at_call 103;refine (HM.out _ _ (by first|exact HF.out|exact q1) (by first|exact HB.out|exact HB.out.trans q2)).mono ?_;rintro e w3 ⟨rfl,q1,q2⟩))
    exact ⟨⟨_,_,m1 / 2,rfl,rfl,by rw [show ((m1 / 2:Nat):Int)=(m1:Int) / 2 by omega],by omega,HR1,⟨q1⟩,⟨(HB.out.trans ‹BB wr _ g›).trans q2⟩⟩,by simp [intOf];omega⟩
   ·have HR1:=Za (HR.out.even HW.out (by omega));have hand:(Go.bits .and .i64 (m1:Int) 1==1)=false:=by rw [i64_and1 m1 (by omega),show m1 % 2=0 by omega];rfl
    clear hodd
    go_wp2_with (first|(go_at_call 103;refine (HM.out _ _ (by first|exact HF.out|exact HF.out.drewN _) (by first|exact HB.out|exact HB.out.drewN _)).mono ?_;rintro e w3 ⟨rfl,q1,q2⟩))
    exact ⟨⟨_,_,m1 / 2,rfl,rfl,by rw [show ((m1 / 2:Nat):Int)=(m1:Int) / 2 by omega],by omega,HR1,⟨q1⟩,⟨HB.out.trans q2⟩⟩,by simp [intOf];omega⟩
  ·obtain rfl:m1=0:=by omega
   obtain rfl:=HR.out.done HW.out;go_wp2;go_ret;exact ⟨rfl,HF.out,HB.out⟩
 ·have hin':inF wb a=false:=by simpa using hin
  rw [hin'] at HC;rw [gpow_out (by simp [hin'])];clear hin hin';go_enter Tryz.func122,Tryz.ntmps122
  go_wp2_with (first|(go_at_call 151;refine HC.out.mono ?_;rintro e w9 ⟨rfl,m9,rfl⟩))
  go_ret;exact ⟨rfl,HF.out.drewN _,HB.out.drewN _⟩
theorem gf_Inv.calls (g : Nat) (S : Nat -> Prop) (wb a : Int) (W : World) (hw : wb = 8 \/ wb = 16) (hF : Fd W g wb (fpoly wb) S) (hS : ∀ k, S k -> k < W.heap.size) :
  Calls Tryz.prog 114 #[.pointer (some ⟨g,0,none⟩), .int .i64 a] W fun e w'=>e= .returned (.tuple #[.int .i64 (ginv wb a), .bool (inF wb a&&a !=0)])/\Fd w' g wb (fpoly wb) S/\BB W w' g:=by
 have HC:=Za (gf_in.calls g wb (fpoly wb) S (some ⟨W.heap.size,0,none⟩) 1 [a] _ (hF.alloc (.cells #[.int .i64 a] 3)) hw (C_nums (t:=3) (heap_alloc_new _ _) (by simp)) (by simp));rw [allIn_one] at HC;have HF:=Za (hF.alloc (.cells #[.int .i64 a] 3));have HB:=Za ((BB.refl W g).alloc (.cells #[.int .i64 a] 3));have HS:=Za (show∀k,S k->k<(W.alloc (.cells #[.int .i64 a] 3)).heap.size from fun k hk=>by have:=hS k hk;simp;omega);have HW:=Za hw
 have HSZ: ∃n:Nat,fsize wb=((n:Nat):Int)+2/\n<=1000000:=by rcases hw with rfl|rfl;exact ⟨254,rfl,by omega⟩;exact ⟨65534,rfl,by omega⟩
 obtain ⟨n,hz,hn⟩:=HSZ;clear hF hS hw;by_cases hin:inF wb a=true
 ·by_cases h0:a=0
  ·subst h0;rw [hin] at HC;have e1:ginv wb 0=0:=by simp [ginv]
   have e2:(inF wb 0&&(0:Int) !=0)=false:=by simp
   rw [e1,e2];clear hin hz e1 e2;go_enter Tryz.func114,Tryz.ntmps114
   go_wp2_with (first|(go_at_call 151;refine HC.out.mono ?_;rintro e w9 ⟨rfl,m9,rfl⟩))
   go_ret2;exact ⟨rfl,HF.out.drewN _,HB.out.drewN _⟩
  ·rw [hin] at HC
   have e1:ginv wb a=gpow wb a n:=by
    have:(a !=0)=true:=by simpa using h0
    simp only [ginv,hin,this,Bool.and_self,if_true];rw [hz,Int.add_sub_cancel]
   have e2:(inF wb a&&a !=0)=true:=by simp [hin,h0]
   rw [e1,e2];have z1:(a==0)=false:=beq_eq_false_iff_ne.2 h0;have hs:IntKind.i64.wrap (fsize wb - 2)=(n:Int):=by rw [hz,IntKind.wrap_i64];omega
   have hs':wrap64 (fsize wb - 2)=(n:Int):=by rw [hz];unfold wrap64;omega
   clear hin hz e1 e2 h0;go_enter Tryz.func114,Tryz.ntmps114
   go_wp2_with (first|(go_at_call 151;refine HC.out.mono ?_;rintro e w9 ⟨rfl,m9,rfl⟩)|(go_at_call 150;refine (eiz.calls g wb (fpoly wb) S _ (HF.out.drewN _) HW.out).mono ?_;rintro e w9 ⟨rfl,m8,rfl⟩)|(go_at_call 122;refine (gf_Pow.calls g S wb a n _ hn HW.out (HF.out.drewN _) HS.out).mono ?_;rintro e w9 ⟨rfl,q1,q2⟩))
   go_ret2;exact ⟨rfl,q1,(HB.out.drewN _).trans q2⟩
 ·have hin':inF wb a=false:=by simpa using hin
  rw [hin'] at HC;have e1:ginv wb a=0:=by simp [ginv,hin']
  rw [e1];have e2:(false&&a !=0)=false:=rfl;rw [hin',e2];clear hin hin' hz e1 e2;go_enter Tryz.func114,Tryz.ntmps114
  go_wp2_with (first|(go_at_call 151;refine HC.out.mono ?_;rintro e w9 ⟨rfl,m9,rfl⟩))
  go_ret2;exact ⟨rfl,HF.out.drewN _,HB.out.drewN _⟩
end Go.Proofs.Xc
end
section
namespace Go.Proofs.Xc
open Go.RowKit Go.Proofs.Pw Go.Proofs.Pl Go.Proofs.Pm
attribute [local go_sem] bcz bdz bpz bqz a4z a5z bez bfz
open Go.Maps Go.WideMaps
def MapSet (w:World) (B:Nat) (l:List Int):Prop:=
 ∃D:DataW Unit,w.ownsMap Tryz.prog 3 (plainElem Tryz.prog 4) B l.length D/\Maps.IsMap D/\
  ∀x:Int,D.atKey (.int .i64 x) (.lit (.bool false))= .lit (.bool (decide (x∈l)))
theorem lawI:Keyed Tryz.prog 3:=int_keyed Tryz.underlying3
theorem zeroB (w:World):(zeroValue 4).run Tryz.prog w= .ok (.bool false) w:=by kernel_rfl
theorem MapSet.made (w:World):MapSet (w.alloc (.map #[] 0)) w.heap.size [] :=
 ⟨.map [],World.ownsMap_made w Tryz.prog 3 _,Maps.isMap_empty,fun s=>rfl⟩
theorem MapSet.put {w : World} {B : Nat} {l : List Int} {D : DataW Unit} {x : Int} (hm : Maps.IsMap D) (hd : ∀ s : Int, D.atKey (.int .i64 s) (.lit (.bool false)) = .lit (.bool (decide (s ∈ l))))
  (h:w.ownsMap Tryz.prog 3 (plainElem Tryz.prog 4) B (l.length+1) (D.put (.int .i64 x) (.lit (.bool true)))):MapSet w B (l++ [x]):=by
 refine ⟨_,by simpa using h,hm.put _ _,fun s=> ?_⟩;by_cases hx:x=s
 ·subst hx;rw [Maps.atKey_put_same hm (by trivial)];simp
 ·rw [Maps.atKey_put_other (fun h=>hx (by injection h with _ h;exact h.symm)),hd s];simp [Ne.symm hx]
theorem MapSet.look {w:World} {B:Nat} {l:List Int} (h:MapSet w B l) {x:Int} (hw:(Lit.int .i64 x).wf=true) (hx:x∉l):(Instr.lookup 195 (.map (some B)) (.int .i64 x) false).run Tryz.prog w= .ok (.bool false) w:=by
 obtain ⟨D,ho,hm,hd⟩:=h;obtain ⟨v,ps,hrun,hv⟩:=ho.lookup lawI Tryz.underlying195 (zeroB w) (plainElem_bool Tryz.underlying4 false) (keyOf_int_mk Tryz.underlying3 hw);rw [hd x,Ze hx] at hv;rw [hrun];unfold plainElem at hv;rw [show Tryz.prog.underlying 4=some .bool from Tryz.underlying4] at hv;cases v<;>simp at hv
 rw [hv.1]
theorem MapSet.grow {w w1:World} {B:Nat} {l:List Int} {row:Option Nat} (h:MapSet w B l) (hg:w.grownBy w1 row) (hne:some B≠row):MapSet w1 B l:=by
 obtain ⟨D,ho,r⟩:=h;exact ⟨D,ho.kept hg hne,r⟩
theorem grown_of_b {w w1:World} (h:Below w.heap.size w w1):w.grownBy w1 none:=⟨h.os,h.tape,h.output,h.size,fun k hk _=>h.block k hk⟩
theorem MapSet.below {w w1:World} {B:Nat} {l:List Int} (h:MapSet w B l) (hb:Below w.heap.size w w1):MapSet w1 B l:=h.grow (grown_of_b hb) (by simp)
theorem MapSet.noncells {w:World} {B:Nat} {l:List Int} (h:MapSet w B l): ∃o:Obj,w.heap[B]?=some o/\o.isCells=false:=by
 obtain ⟨D,⟨es,clock,hb, -⟩, -⟩:=h;exact ⟨_,hb,rfl⟩
end Go.Proofs.Xc
end
section
namespace Go.Proofs.Xc
open Go.RowKit Go.Proofs.Pw Go.Proofs.Pl Go.Proofs.Pm
attribute [local go_sem] bcz bdz bpz bqz a4z a5z bez bfz
structure Mx (W:World) (o:Nat) (bs:List (Nat×Nat)) (rows:List (List Int)):Prop where
 len:bs.length=rows.length
 outer: ∃co:Array Value,W.heap[o]?=some (.cells co 57 (0,0))/\ ∀(i:Nat) (b c:Nat) (row:List Int),bs[i]?=some (b,c)->rows[i]?=some row->co[i]?=some (.slice (some ⟨b,0,none⟩) row.length c)
 inner: ∀(i:Nat) (b c:Nat) (row:List Int),bs[i]?=some (b,c)->rows[i]?=some row->row.length<=c/\ ∃cs:Array Value,W.heap[b]?=some (.cells cs 3 (0,0))/\ ∀(j:Nat) (x:Int),row[j]?=some x->cs[j]?=some (.int .i64 x)
 nodup:(bs.map Prod.fst).Nodup
structure BS (w w':World) (g:Nat) (S:Nat->Prop):Prop where
 os:w'.os=w.os
 tape:w'.tape=w.tape
 output:w'.output=w.output
 size:w.heap.size<=w'.heap.size
 block: ∀i,i<w.heap.size->i≠g-> ¬S i->w'.heap[i]?=w.heap[i]?
namespace BS
variable {a b c : World} {g : Nat} {S : Nat -> Prop}
theorem refl (w:World) (g:Nat) (S:Nat->Prop):BS w w g S:=⟨rfl,rfl,rfl,Zv _,fun _ _ _ _=>rfl⟩
theorem trans (h:BS a b g S) (k:BS b c g S):BS a c g S:=
 ⟨k.os.trans h.os,k.tape.trans h.tape,k.output.trans h.output,Zt h.size k.size,fun i hi hg hs=>(k.block i (Zp hi h.size) hg hs).trans (h.block i hi hg hs)⟩
theorem of_bb (h:BB a b g):BS a b g S:=⟨h.os,h.tape,h.output,h.size,fun i hi hg _=>h.block i hi hg⟩
theorem drewN (h:BS a b g S) (n:Nat):BS a (b.drewN n) g S:=⟨h.os,h.tape,h.output,h.size,h.block⟩
theorem drew (h:BS a b g S):BS a b.drew g S:=⟨h.os,h.tape,h.output,h.size,h.block⟩
theorem alloc (h:BS a b g S) (o:Obj):BS a (b.alloc o) g S:=h.trans (of_bb (BB.of_below (anz (Zw _ _) o) g))
theorem set (h:BS a b g S) {p:Addr} (hp:S p.block\/a.heap.size<=p.block) (u:Value):BS a (b.setCell p u) g S:=
 ⟨h.os,h.tape,h.output,by simpa using h.size,fun i hi hg hs=>(Below.heap_setCell b p u i (fun e=>by rcases hp with hp|hp;exact hs (e▸hp);omega)).trans (h.block i hi hg hs)⟩
theorem blk (h:BS a b g S) {k:Nat} {o:Obj} (hk:a.heap[k]?=some o) (hg:k≠g) (hs: ¬S k):b.heap[k]?=some o:=(h.block k (a8z hk) hg hs).trans hk
end BS
theorem cxz {a b:World} {g:Nat} (h:BB a b g) {p:Addr} {v:Value} (hp:a.cell? p=some v) (hg:p.block≠g):b.cell? p=some v:=
 (World.cell?_of_block (h.block p.block (Zj _ _ hp) hg)).trans hp
theorem froz_bb {a b:World} {g:Nat} (h:BB a b g) {p:Addr} (hlt:p.block<a.heap.size) (hp:a.frozen? p=false) (hg:p.block≠g):b.frozen? p=false:=by
 have:=h.block p.block hlt hg
 unfold World.frozen? at *
 rw [this];exact hp
namespace Mx
variable {W W1 : World} {o : Nat} {bs : List (Nat × Nat)} {rows : List (List Int)}
theorem cAz (h:Mx W o bs rows) {i b c:Nat} {row:List Int} (hb:bs[i]?=some (b,c)) (hr:rows[i]?=some row):W.cell? ⟨o,i,none⟩=some (.slice (some ⟨b,0,none⟩) row.length c):=by
 obtain ⟨co,h1,h2⟩:=h.outer;rw [abz h1 i];exact h2 i b c row hb hr
theorem froz_o (h:Mx W o bs rows) (i:Nat):W.frozen? ⟨o,i,none⟩=false:=by
 obtain ⟨co,h1,h2⟩:=h.outer;exact bnz h1 i
theorem lt_o (h:Mx W o bs rows):o<W.heap.size:=by
 obtain ⟨co,h1,h2⟩:=h.outer;exact a8z h1
theorem cWz (h:Mx W o bs rows) {i b c j:Nat} {row:List Int} {x:Int} (hb:bs[i]?=some (b,c)) (hr:rows[i]?=some row) (hx:row[j]?=some x):W.cell? ⟨b,j,none⟩=some (.int .i64 x):=by
 obtain ⟨-,cs,h1,h2⟩:=h.inner i b c row hb hr;rw [abz h1 j];exact h2 j x hx
theorem froz_i (h:Mx W o bs rows) {i b c:Nat} (hb:bs[i]?=some (b,c)) (j:Nat):W.frozen? ⟨b,j,none⟩=false:=by
 obtain ⟨row,hr⟩: ∃row,rows[i]?=some row:=⟨_,Zf (by have:=(Zk hb).1;have:=h.len;omega)⟩;obtain ⟨-,cs,h1,h2⟩:=h.inner i b c row hb hr;exact bnz h1 j
theorem lt_i (h:Mx W o bs rows) {i b c:Nat} (hb:bs[i]?=some (b,c)):b<W.heap.size:=by
 obtain ⟨row,hr⟩: ∃row,rows[i]?=some row:=⟨_,Zf (by have:=(Zk hb).1;have:=h.len;omega)⟩;obtain ⟨-,cs,h1,h2⟩:=h.inner i b c row hb hr;exact a8z h1
theorem ne_o (h:Mx W o bs rows) {i b c:Nat} (hb:bs[i]?=some (b,c)):b≠o:=by
 obtain ⟨row,hr⟩: ∃row,rows[i]?=some row:=⟨_,Zf (by have:=(Zk hb).1;have:=h.len;omega)⟩;obtain ⟨-,cs,h1,h2⟩:=h.inner i b c row hb hr;obtain ⟨co,h3,h4⟩:=h.outer;rintro rfl;rw [h1] at h3;injection h3 with h3
 injection h3 with _ h3
 exact Yf h3 (by decide)
theorem ne_ij (h:Mx W o bs rows) {i j b c b' c':Nat} (hb:bs[i]?=some (b,c)) (hb':bs[j]?=some (b',c')) (hij:i≠j):b≠b':=by
 have h1:(bs.map Prod.fst)[i]?=some b:=by rw [List.getElem?_map,hb];rfl
 have h2:(bs.map Prod.fst)[j]?=some b':=by rw [List.getElem?_map,hb'];rfl
 rintro rfl;obtain ⟨hi,e1⟩:=Zk h1;obtain ⟨hj,e2⟩:=Zk h2;have hp:=List.pairwise_iff_getElem.1 h.nodup;rcases Nat.lt_or_gt_of_ne hij with hlt|hlt
 ·exact hp i j hi hj hlt (e1.trans e2.symm)
 ·exact hp j i hj hi hlt (e2.trans e1.symm)
theorem move (h:Mx W o bs rows) (ho:W1.heap[o]?=W.heap[o]?) (hb: ∀(i b c:Nat),bs[i]?=some (b,c)->W1.heap[b]?=W.heap[b]?):Mx W1 o bs rows:=by
 obtain ⟨h1,⟨co,h2,h3⟩,h4,h5⟩:=h;refine ⟨h1,⟨co,ho.trans h2,h3⟩,fun i b c row hi hr=> ?_,h5⟩;obtain ⟨hc,cs,h6,h7⟩:=h4 i b c row hi hr;exact ⟨hc,cs,(hb i b c hi).trans h6,h7⟩
theorem below (h:Mx W o bs rows) (hb:Below W.heap.size W W1):Mx W1 o bs rows:=h.move (hb.block _ h.lt_o) (fun _ _ _ hi=>hb.block _ (h.lt_i hi))
theorem alloc (h:Mx W o bs rows) (x:Obj):Mx (W.alloc x) o bs rows:=h.below (anz (Zw _ _) x)
theorem drewN (h:Mx W o bs rows) (n:Nat):Mx (W.drewN n) o bs rows:=h.move rfl (fun _ _ _ _=>rfl)
theorem drew (h:Mx W o bs rows):Mx W.drew o bs rows:=h.move rfl (fun _ _ _ _=>rfl)
theorem ne_g (h:Mx W o bs rows) {g:Nat} {cs:Array Value} (hg:W.heap[g]?=some (.cells cs 172 (0,0))):o≠g/\ ∀(i b c:Nat),bs[i]?=some (b,c)->b≠g:=by
 refine ⟨?_,fun i b c hb=> ?_⟩
 ·obtain ⟨co,h3,h4⟩:=h.outer;rintro rfl;rw [hg] at h3;injection h3 with h3
  injection h3 with _ h3
  exact Yf h3 (by decide)
 ·obtain ⟨row,hr⟩: ∃row,rows[i]?=some row:=⟨_,Zf (by have:=(Zk hb).1;have:=h.len;omega)⟩;obtain ⟨-,cs,h1,h2⟩:=h.inner i b c row hb hr;rintro rfl;rw [hg] at h1;injection h1 with h1
  injection h1 with _ h1
  exact Yf h1 (by decide)
theorem bb (h:Mx W o bs rows) {g:Nat} (hg:o≠g/\ ∀(i b c:Nat),bs[i]?=some (b,c)->b≠g) (hb:BB W W1 g):Mx W1 o bs rows:=h.move (hb.block _ h.lt_o hg.1) (fun i b c hi=>hb.block _ (h.lt_i hi) (hg.2 i b c hi))
theorem set (h:Mx W o bs rows) {i b c j:Nat} {row:List Int} (hb:bs[i]?=some (b,c)) (hr:rows[i]?=some row) (x:Int):Mx (W.setCell ⟨b,j,none⟩ (.int .i64 x)) o bs (rows.set i (row.set j x)):=by
 have hne:=h.ne_o hb;refine ⟨by rw [List.length_set];exact h.len,?_,fun k b' c' row' hk hr'=> ?_,h.nodup⟩
 ·obtain ⟨co,h1,h2⟩:=h.outer;refine ⟨co,bFz h1 (Ne.symm hne) _,fun k b' c' row' hk hr'=> ?_⟩;by_cases hki:i=k
  ·subst hki
   have:row.set j x=row':=by
    rw [List.getElem?_set_self (Zk hr).1] at hr';exact Zn hr'
   rw [<-this,List.length_set];exact h2 _ _ _ _ hk hr
  ·rw [List.getElem?_set_ne hki] at hr';exact h2 k b' c' row' hk hr'
 ·by_cases hki:i=k
  ·subst hki;rw [hb] at hk;injection hk with hk
   injection hk with e1 e2
   subst e1;subst e2
   have e:row.set j x=row':=by
    rw [List.getElem?_set_self (Zk hr).1] at hr';exact Zn hr'
   subst e;obtain ⟨hc,cs,h1,h2⟩:=h.inner i b c row hb hr;refine ⟨by rw [List.length_set];exact hc,_,eez h1 j _,fun j' x' hx'=> ?_⟩;by_cases hj:j=j'
   ·subst hj;obtain ⟨hlt,e⟩:=Zk hx';rw [List.length_set] at hlt;rw [List.getElem_set_self] at e;subst e;have:=h2 j _ (Zf hlt);have hl:=(Array.getElem?_eq_some_iff.1 this).1;simp [hl]
   ·rw [List.getElem?_set_ne hj] at hx';rw [Array.getElem?_setIfInBounds_ne hj];exact h2 j' x' hx'
  ·rw [List.getElem?_set_ne hki] at hr';obtain ⟨hc,cs,h1,h2⟩:=h.inner k b' c' row' hk hr';exact ⟨hc,cs,bFz h1 (Ne.symm (h.ne_ij hb hk hki)) _,h2⟩
end Mx
theorem Fd.typed {W:World} {g:Nat} {wb p:Int} {S:Nat->Prop} (h:Fd W g wb p S): ∃cs,W.heap[g]?=some (.cells cs 172 (0,0)):=by
 obtain ⟨-,h|⟨-, -,a,b,h, -⟩⟩:=h
 ·exact ⟨_,h⟩
 ·exact ⟨_,h⟩
def mid (f:Int->Int->Int) (row pr:List Int) (k:Nat):List Int:=(List.zipWith f row pr).take k++row.drop k
theorem mid_zero (f:Int->Int->Int) (row pr:List Int):mid f row pr 0=row:=by simp [mid]
theorem mid_length (f:Int->Int->Int) (row pr:List Int) (k:Nat) (hk:k<=row.length) (hl:row.length=pr.length):(mid f row pr k).length=row.length:=by
 simp only [mid,List.length_append,List.length_take,List.length_zipWith,List.length_drop];omega
theorem mid_at (f:Int->Int->Int) (row pr:List Int) (k:Nat) (x:Int) (hx:row[k]?=some x) (hl:row.length=pr.length):(mid f row pr k)[k]?=some x:=by
 have hk:=(Zk hx).1;unfold mid;rw [List.getElem?_append_right (by simp;omega)];simp [List.length_take,List.length_zipWith, <-hl];rw [Nat.min_eq_left (by omega),Nat.sub_self,Nat.add_zero];exact hx
theorem mid_step (f:Int->Int->Int) (row pr:List Int) (k:Nat) (x y:Int) (hx:row[k]?=some x) (hy:pr[k]?=some y) (hl:row.length=pr.length):(mid f row pr k).set k (f x y)=mid f row pr (k+1):=by
 have hk:=(Zk hx).1;have hz:(List.zipWith f row pr)[k]?=some (f x y):=by simp [List.getElem?_zipWith,hx,hy]
 unfold mid;rw [List.set_append_right _ _ (by simp;omega)];have e:k - ((List.zipWith f row pr).take k).length=0:=by simp [List.length_take,List.length_zipWith, <-hl];omega
 rw [e,List.drop_eq_getElem_cons hk,Zh,List.take_add_one,hz,List.append_assoc];rfl
theorem mid_full (f:Int->Int->Int) (row pr:List Int) (hl:row.length=pr.length):mid f row pr row.length=List.zipWith f row pr:=by
 unfold mid;rw [List.drop_length,List.append_nil,List.take_of_length_le (by rw [List.length_zipWith];exact Nat.min_le_left _ _)]
structure Rd (W:World) (g fb ab tb o:Nat) (wb:Int) (S:Nat->Prop) (m co:Nat) (at_:Int):Prop where
 f:W.heap[fb]?=some (.cells #[.pointer (some ⟨g,0,none⟩)] 72 (0,0))
 a:W.heap[ab]?=some (.cells #[.slice (some ⟨o,0,none⟩) m co] 69 (0,0))
 t:W.heap[tb]?=some (.cells #[.int .i64 at_] 3 (0,0))
 fS: ¬S fb
 aS: ¬S ab
 tS: ¬S tb
 fg:fb≠g
 ag:ab≠g
 tg:tb≠g
theorem Rd.bs {W W1:World} {g fb ab tb o:Nat} {wb:Int} {S:Nat->Prop} {m co:Nat} {at_:Int} (h:Rd W g fb ab tb o wb S m co at_) (hb:BS W W1 g S):Rd W1 g fb ab tb o wb S m co at_:=
 ⟨hb.blk h.f h.fg h.fS,hb.blk h.a h.ag h.aS,hb.blk h.t h.tg h.tS,h.fS,h.aS,h.tS,h.fg,h.ag,h.tg⟩
def clrF (wb n:Int):Int->Int->Int:=fun x y=>Go.bits .xor .i64 x (gmul wb n y)
theorem set_same {α:Type} {l:List α} {i:Nat} {x:α} (h:l[i]?=some x):l.set i x=l:=by
 obtain ⟨hi,rfl⟩:=Zk h;simp
def S6 (fb ab tb g o m co at_ ba L ca bi k:Nat) (x y:Int) (W':World):Prop:=W'.cell? ⟨fb,0,none⟩=some (.pointer (some ⟨g,0,none⟩))/\W'.cell? ⟨ab,0,none⟩=some (.slice (some ⟨o,0,none⟩) m co)/\W'.cell? ⟨tb,0,none⟩=some (.int .i64 (at_:Int))/\W'.cell? ⟨o,at_,none⟩=some (.slice (some ⟨ba,0,none⟩) L ca)/\W'.cell? ⟨ba,k,none⟩=some (.int .i64 y)/\W'.cell? ⟨bi,k,none⟩=some (.int .i64 x)
theorem S6.bb {fb ab tb g o m co at_ ba L ca bi k:Nat} {x y:Int} {W W1:World} (hne:fb≠g/\ab≠g/\tb≠g/\o≠g/\ba≠g/\bi≠g) (h:S6 fb ab tb g o m co at_ ba L ca bi k x y W) (hb:BB W W1 g):S6 fb ab tb g o m co at_ ba L ca bi k x y W1:=
 ⟨cxz hb h.1 hne.1,cxz hb h.2.1 hne.2.1,cxz hb h.2.2.1 hne.2.2.1,cxz hb h.2.2.2.1 hne.2.2.2.1,cxz hb h.2.2.2.2.1 hne.2.2.2.2.1,cxz hb h.2.2.2.2.2 hne.2.2.2.2.2⟩
theorem S6.drew {fb ab tb g o m co at_ ba L ca bi k:Nat} {x y:Int} {W:World} (h:S6 fb ab tb g o m co at_ ba L ca bi k x y W):S6 fb ab tb g o m co at_ ba L ca bi k x y W.drew:=h
theorem S6.drewN {fb ab tb g o m co at_ ba L ca bi k:Nat} {x y:Int} {W:World} (h:S6 fb ab tb g o m co at_ ba L ca bi k x y W) (n:Nat):S6 fb ab tb g o m co at_ ba L ca bi k x y (W.drewN n):=h
theorem clear.calls (g fb ab tb o : Nat) (wb : Int) (S S0 : Nat -> Prop) (m co i at_ bi ci ba ca c L : Nat) (n : Int) (bs : List (Nat × Nat)) (rows : List (List Int)) (row pr : List Int) (W : World) (hw : wb = 8 \/ wb = 16) (hF : Fd W g wb (fpoly wb) S) (hS : ∀ k, S k -> k < W.heap.size)
  (hM:Mx W o bs rows) (hSb: ∀(i b c:Nat),bs[i]?=some (b,c)->S0 b) (hS0: ∀k,S0 k->S k) (hR:Rd W g fb ab tb o wb S0 m co (at_:Int)) (hmm:at_<m) (hbi:bs[i]?=some (bi,ci)) (hri:rows[i]?=some row) (hba:bs[at_]?=some (ba,ca)) (hra:rows[at_]?=some pr) (hia:i≠at_) (hl:row.length=L) (hl':pr.length=L) (hll:L<=1000) (hc:row[c]?=some n):
  Calls Tryz.prog 174 #[.slice (some ⟨bi,0,none⟩) L ci, .int .i64 (c:Int), .pointer (some ⟨fb,0,none⟩), .pointer (some ⟨ab,0,none⟩), .pointer (some ⟨tb,0,none⟩)] W fun e w'=>e= .returned (.tuple #[])/\Mx w' o bs (rows.set i (List.zipWith (clrF wb n) row pr))/\Fd w' g wb (fpoly wb) S/\BS W w' g S0:=by
 have HW:=Za hw;have HS:=Za hS;have HSB:=Za hSb;have HS0:=Za hS0;have HF:=Za hF;have HR:=Za hR;have HBI:=Za hbi;have HRI:=Za hri;have HBA:=Za hba;have HRA:=Za hra
 have HM:=Za (show Mx W o bs (rows.set i (mid (clrF wb n) row pr 0)) by
  rw [mid_zero,set_same hri];exact hM)
 have hcl:c<row.length:=(Zk hc).1;have hc0:W.cell? ⟨bi,c,none⟩=some (.int .i64 n):=hM.cWz hbi hri hc;obtain ⟨gcs,hgcs⟩:=hF.typed;have hng:=hM.ne_g hgcs;have hne6:fb≠g/\ab≠g/\tb≠g/\o≠g/\ba≠g/\bi≠g:=⟨hR.fg,hR.ag,hR.tg,hng.1,hng.2 _ _ _ hba,hng.2 _ _ _ hbi⟩;have HNE:=Za hne6;have HNG:=Za hng;have HL:=Za hl;have HLP:=Za hl';have c1:(0:Int)<=(c:Int):=by omega
 have c2:(c:Int)<(L:Int):=by omega
 have m1:(0:Int)<=(at_:Int):=by omega
 have m2:(at_:Int)<(m:Int):=by omega
 clear hw hS hSb hS0 hF hR hM hbi hri hba hra hc hgcs hng hne6 hcl hl hl';go_enter Tryz.func174,Tryz.ntmps174;go_wp2
 go_loopw [15] (fun j wr=> ∃k:Nat,k<=L/\j= .int .i64 (k:Int)/\Aside0 (Mx wr o bs (rows.set i (mid (clrF wb n) row pr k)))/\Aside0 (Fd wr g wb (fpoly wb) S)/\Aside0 (BS W wr g S0)) (fun j _=>L - (intOf j).toNat)
 case atStart=>exact ⟨0,Nat.zero_le _,rfl,HM,HF,⟨BS.refl _ _ _⟩⟩
 clear HM HF hc0;obtain ⟨k,hk,rfl,HM,HF,HB⟩:=hrel;by_cases hlt:k<L
 ·obtain ⟨x,hx⟩: ∃x,row[k]?=some x:=⟨_,Zf (by have:=HL.out;omega)⟩;obtain ⟨y,hy⟩: ∃y,pr[k]?=some y:=⟨_,Zf (by have:=HLP.out;omega)⟩;have HLL:=Za (HL.out.trans HLP.out.symm);have hilt:i<rows.length:=(Zk HRI.out).1;have hself:(rows.set i (mid (clrF wb n) row pr k))[i]?=some (mid (clrF wb n) row pr k):=List.getElem?_set_self hilt;have hat:(rows.set i (mid (clrF wb n) row pr k))[at_]?=some pr:=by rw [List.getElem?_set_ne hia];exact HRA.out
  have hRw:=HR.out.bs HB.out;have h6:S6 fb ab tb g o m co at_ ba L ca bi k x y wr:=⟨(abz hRw.f 0).trans rfl,(abz hRw.a 0).trans rfl,(abz hRw.t 0).trans rfl,by rw [HM.out.cAz HBA.out hat,HLP.out],HM.out.cWz HBA.out hat hy,HM.out.cWz HBI.out hself (mid_at _ _ _ _ _ hx HLL.out)⟩;have HSTEP:=Za (mid_step (clrF wb n) row pr k x y hx hy HLL.out);have HSELF:=Za hself;have h6':=h6;obtain ⟨k1,k2,k3,k4,k5,k6⟩:=h6';have hz:=HM.out.froz_i HBI.out k;have hbl:=HM.out.lt_i HBI.out;have HFR:=Za (fun (w3:World) (h:BB wr w3 g)=>froz_bb h (p:=⟨bi,k,none⟩) hbl hz HNE.out.2.2.2.2.2);have n1:(0:Int)<=(k:Int):=by omega
  have n2:(k:Int)<(L:Int):=by omega
  have HSS:=Za (show∀k,S k->k<wr.drew.heap.size from fun k hk=>Zp (HS.out k hk) HB.out.size);clear hx hy hself hat hRw hz
  go_wp2_with fail
  refine bPz (n:=17) (S:=fun w'=>w'.cell? ⟨fb,0,none⟩=some (.pointer (some ⟨g,0,none⟩))/\w'.cell? ⟨ab,0,none⟩=some (.slice (some ⟨o,0,none⟩) m co)/\w'.cell? ⟨tb,0,none⟩=some (.int .i64 (at_:Int))/\w'.cell? ⟨o,at_,none⟩=some (.slice (some ⟨ba,0,none⟩) L ca)/\w'.cell? ⟨ba,k,none⟩=some (.int .i64 y)/\w'.cell? ⟨bi,k,none⟩=some (.int .i64 x)) (ds:= [16]) (bA 17 0) kr_ rfl rfl ⟨k1,k2,k3,k4,k5,k6⟩ (fun hHeld=> ?_);refine pu_ 0 18 1 ?_;refine pu_ 1 19 3 ?_;refine pu_ 2 20 7 ?_;refine pu_ 5 23 39 ?_;refine pu_ 10 28 1063 ?_;refine tk_ 3 21 1071 hHeld ?_;refine tk_ 4 22 1087 hHeld ?_;refine tk_ 6 24 1151 hHeld ?_;refine tk_ 7 25 1279 hHeld ?_;refine pu_ 8 26 1535 ?_;refine tk_ 9 27 2047 hHeld ?_;refine pu_ 11 29 4095 ?_;refine tk_ 12 30 8191 hHeld ?_;refine one_ (i:=13) (N:=some 31) (bA 17 16383) rfl rfl kr_ (by decide) (fun K hK=> ?_);refine goes_ Tryz.func103 kr_ rfl #[.pointer (some ⟨g,0,none⟩), .int .i64 n, .int .i64 y] (by rfl) rfl rfl am_ ?_
  with_reducible refine (cHz.calls g S wb n y _ HW.out HF.out.drew HSS.out).mono ?_
  rintro e w3 ⟨rfl,q1,q2⟩;refine ⟨_,rfl,?_⟩;have q3:BB wr w3 g:=⟨q2.os,q2.tape,q2.output,q2.size,q2.block⟩;have h6c:=S6.bb HNE.out h6 q3;have hz3:=HFR.out w3 q3;have hc3:=h6c.2.2.2.2.2;have Q1:=Za q1;have Q3:=Za q3;clear q1 q2 q3;refine hK.out _ _ ⟨h6c.1,h6c.2.1,h6c.2.2.1,h6c.2.2.2.1,h6c.2.2.2.2.1,h6c.2.2.2.2.2⟩ (fun hHeld=> ?_);clear hK K;refine norm_ (a':= ?_) ?_ ?_;rotate_left
  ·show Act.put _ (some 31) _=_;simp only [Act.put,Zg,Zh,Zi,i64_w,i32_w];rfl
  refine pu_ 14 32 32767 ?_;refine pu_ 15 33 65535 ?_;refine last_ (i:=16) (N:=none) (bA 17 131071) rfl rfl kr_ (by decide) (fun K hK=> ?_);refine skip_ (w1:= ?_) (by rfl) rfl ?_ ?_;rotate_left
  ·go_simp;rfl
  refine hK.out _ _ ?_;clear hK K;refine done_ kr_ ?_
  have HN1:=Za (show Mx (w3.setCell ⟨bi,k,none⟩ (.int .i64 (Go.bits .xor .i64 x (gmul wb n y)))) o bs (rows.set i (mid (clrF wb n) row pr (k+1))) by
   have h1:=(HM.out.bb HNG.out Q3.out).set (j:=k) HBI.out HSELF.out (Go.bits .xor .i64 x (gmul wb n y));rw [List.set_set] at h1
   rw [<-HSTEP.out];exact h1)
  have HN2:=Za (Q1.out.set (q:=⟨bi,k,none⟩) (HS0.out _ (HSB.out _ _ _ HBI.out)) (.int .i64 (Go.bits .xor .i64 x (gmul wb n y))));have HN3:=Za ((HB.out.trans (BS.of_bb Q3.out)).set (p:=⟨bi,k,none⟩) (.inl (HSB.out _ _ _ HBI.out)) (.int .i64 (Go.bits .xor .i64 x (gmul wb n y))));go_wp2;go_roundw
  case rel=>exact ⟨k+1,by omega,by go_num,HN1,HN2,HN3⟩
  case measure=>simp [intOf];omega
 ·obtain rfl:k=L:=by omega
  have HE:=Za HM.out;rw [<-HL.out,mid_full _ _ _ (HL.out.trans HLP.out.symm)] at HE;go_wp2
  go_end0
  exact ⟨rfl,HE.out,HF.out,HB.out⟩
def swapL {α:Type} (l:List α) (i k:Nat):List α:=match l[i]?,l[k]? with
 |some x,some y=>(l.set i y).set k x
 |_,_=>l
def clrAll (wb:Int) (at_ c:Nat) (pr:List Int) (rows:List (List Int)):List (List Int):=rows.mapIdx fun i row=>if i=at_ then row else List.zipWith (clrF wb (row.getD c 0)) row pr
def nzB (c:Nat) (row:List Int):Bool:=row.getD c 0 !=0
def redStep (wb:Int) (c:Nat) (rows:List (List Int)) (at_:Nat):List (List Int)×Nat:=
 let k:=idxF (nzB c) (rows.drop at_)
 if k<0 then (rows,at_) else
  let r1:=swapL rows at_ (at_+k.toNat)
  let pr:=r1.getD at_ []
  let p2:=List.zipWith (fun x _=>gmul wb x (ginv wb (pr.getD c 0))) pr pr
  (clrAll wb at_ c p2 (r1.set at_ p2),at_+1)
def redF (wb:Int):Nat->Nat->List (List Int)->Nat->List (List Int)×Nat
 |0,_,rows,at_=>(rows,at_)
 |n+1,c,rows,at_=>if at_=rows.length then (rows,at_) else redF wb n (c+1) (redStep wb c rows at_).1 (redStep wb c rows at_).2
theorem dfz {α:Type} (l:List α) (i k:Nat):(swapL l i k).length=l.length:=by
 unfold swapL;split<;>simp
theorem swapL_eq {α:Type} (l:List α) (i k:Nat) (x y:α) (hx:l[i]?=some x) (hy:l[k]?=some y):swapL l i k=(l.set i y).set k x:=by
 unfold swapL;rw [hx,hy]
theorem dgz {α:Type} (l:List α) (i k:Nat) (x y:α) (hx:l[i]?=some x) (hy:l[k]?=some y) (j:Nat):(swapL l i k)[j]?=if j=k then some x else if j=i then some y else l[j]?:=by
 rw [swapL_eq l i k x y hx hy];have h1:=(Zk hx).1;have h2:=(Zk hy).1;by_cases hjk:j=k
 ·subst hjk;rw [List.getElem?_set_self (by simpa using h2),Ya rfl]
 ·rw [List.getElem?_set_ne (Ne.symm hjk),Yb hjk];by_cases hji:j=i
  ·subst hji;rw [List.getElem?_set_self h1,Ya rfl]
  ·rw [List.getElem?_set_ne (Ne.symm hji),Yb hji]
theorem swapL_map {α β:Type} (f:α->β) (l:List α) (i k:Nat):(swapL l i k).map f=swapL (l.map f) i k:=by
 unfold swapL;rw [List.getElem?_map,List.getElem?_map];cases l[i]?<;>cases l[k]?<;>simp [List.map_set]
theorem swapL_perm {α:Type} (l:List α) (i k:Nat):(swapL l i k).Perm l:=by
 unfold swapL;split
 ·rename_i x y hx hy
  obtain ⟨h1,rfl⟩:=Zk hx;obtain ⟨h2,rfl⟩:=Zk hy;exact List.set_set_perm h1 h2
 ·exact List.Perm.refl _
theorem swapL_mem {α:Type} (l:List α) (i k:Nat) (x:α) (h:x∈swapL l i k):x∈l:=(swapL_perm l i k).mem_iff.1 h
theorem csz (wb:Int) (at_ c:Nat) (pr:List Int) (rows:List (List Int)):(clrAll wb at_ c pr rows).length=rows.length:=by simp [clrAll]
theorem dhz (wb:Int) (at_ c:Nat) (pr:List Int) (rows:List (List Int)) (i:Nat) (row:List Int) (h:rows[i]?=some row):(clrAll wb at_ c pr rows)[i]?=some (if i=at_ then row else List.zipWith (clrF wb (row.getD c 0)) row pr):=by
 simp [clrAll,List.getElem?_mapIdx,h]
def clrTo (wb:Int) (at_ c:Nat) (pr:List Int) (rows:List (List Int)) (i:Nat):List (List Int):=(clrAll wb at_ c pr rows).take i++rows.drop i
theorem clrTo_zero (wb:Int) (at_ c:Nat) (pr:List Int) (rows:List (List Int)):clrTo wb at_ c pr rows 0=rows:=by simp [clrTo]
theorem clrTo_full (wb:Int) (at_ c:Nat) (pr:List Int) (rows:List (List Int)):clrTo wb at_ c pr rows rows.length=clrAll wb at_ c pr rows:=by
 unfold clrTo;rw [List.drop_length,List.append_nil,List.take_of_length_le (by rw [csz];exact Zv _)]
theorem clrTo_length (wb:Int) (at_ c:Nat) (pr:List Int) (rows:List (List Int)) (i:Nat) (hi:i<=rows.length):(clrTo wb at_ c pr rows i).length=rows.length:=by
 simp [clrTo,csz];omega
theorem clrTo_at (wb:Int) (at_ c:Nat) (pr:List Int) (rows:List (List Int)) (i:Nat) (row:List Int) (h:rows[i]?=some row):(clrTo wb at_ c pr rows i)[i]?=some row:=by
 have hi:=(Zk h).1;unfold clrTo;rw [List.getElem?_append_right (by rw [List.length_take];exact Nat.min_le_left _ _),List.length_take,csz,Nat.min_eq_left (by omega),Nat.sub_self,List.getElem?_drop];exact h
theorem clrTo_pr (wb:Int) (at_ c:Nat) (pr:List Int) (rows:List (List Int)) (i:Nat) (h:rows[at_]?=some pr):(clrTo wb at_ c pr rows i)[at_]?=some pr:=by
 have hi:=(Zk h).1;unfold clrTo;by_cases hlt:at_<i
 ·rw [List.getElem?_append_left (by simp [csz];omega),List.getElem?_take,Ya hlt,dhz wb at_ c pr rows at_ pr h,Ya rfl]
 ·rw [List.getElem?_append_right (by simp [csz];omega),List.length_take,csz,List.getElem?_drop];rw [show i+(at_ - min i rows.length)=at_ by omega];exact h
theorem clrTo_step (wb:Int) (at_ c:Nat) (pr:List Int) (rows:List (List Int)) (i:Nat) (row:List Int) (h:rows[i]?=some row) (hne:i≠at_):(clrTo wb at_ c pr rows i).set i (List.zipWith (clrF wb (row.getD c 0)) row pr)=clrTo wb at_ c pr rows (i+1):=by
 have hi:=(Zk h).1;have h2:=dhz wb at_ c pr rows i row h;rw [Yb hne] at h2;unfold clrTo;rw [List.set_append_right _ _ (by rw [List.length_take];exact Nat.min_le_left _ _),List.length_take,csz,Nat.min_eq_left (by omega),Nat.sub_self,List.drop_eq_getElem_cons hi,Zh,List.take_add_one,h2,List.append_assoc];rfl
theorem clrTo_skip (wb:Int) (at_ c:Nat) (pr:List Int) (rows:List (List Int)) (row:List Int) (h:rows[at_]?=some row):clrTo wb at_ c pr rows at_=clrTo wb at_ c pr rows (at_+1):=by
 have hi:=(Zk h).1;have h2:=dhz wb at_ c pr rows at_ row h;rw [Ya rfl] at h2;obtain ⟨_,e⟩:=Zk h;unfold clrTo;rw [List.drop_eq_getElem_cons hi,e,List.take_add_one,h2,List.append_assoc];rfl
theorem Mx.swap {W : World} {o : Nat} {bs : List (Nat × Nat)} {rows : List (List Int)} (h : Mx W o bs rows) {i k bi ci bk ck : Nat} {ri rk : List Int} (hbi : bs[i]? = some (bi, ci)) (hbk : bs[k]? = some (bk, ck)) (hri : rows[i]? = some ri) (hrk : rows[k]? = some rk) :
  Mx ((W.setCell ⟨o,i,none⟩ (.slice (some ⟨bk,0,none⟩) rk.length ck)).setCell ⟨o,k,none⟩ (.slice (some ⟨bi,0,none⟩) ri.length ci)) o (swapL bs i k) (swapL rows i k):=by
 have hne: ∀(j b c:Nat),bs[j]?=some (b,c)->b≠o:=fun j b c hb=>h.ne_o hb
 have hsw: ∀(j b c:Nat),(swapL bs i k)[j]?=some (b,c)-> ∃j':Nat,bs[j']?=some (b,c)/\rows[j']?=(swapL rows i k)[j]?:=by
  intro j b c hj;rw [dgz bs i k _ _ hbi hbk] at hj;rw [dgz rows i k _ _ hri hrk];by_cases h1:j=k
  ·rw [Ya h1] at hj|-;exact ⟨i,by rw [hbi];exact hj,hri⟩
  ·rw [Yb h1] at hj|-;by_cases h2:j=i
   ·rw [Ya h2] at hj|-;exact ⟨k,by rw [hbk];exact hj,hrk⟩
   ·rw [Yb h2] at hj|-;exact ⟨j,hj,rfl⟩
 refine ⟨by rw [dfz,dfz];exact h.len,?_,fun j b c row hj hr=> ?_,?_⟩
 ·obtain ⟨co,h1,h2⟩:=h.outer;have hi:=(Array.getElem?_eq_some_iff.1 (h2 i _ _ _ hbi hri)).1;have hk:=(Array.getElem?_eq_some_iff.1 (h2 k _ _ _ hbk hrk)).1;refine ⟨_,eez (eez h1 i _) k _,fun j b c row hj hr=> ?_⟩;rw [dgz bs i k _ _ hbi hbk] at hj;rw [dgz rows i k _ _ hri hrk] at hr;by_cases h3:j=k
  ·subst h3;rw [Ya rfl] at hj hr;cases hj
   cases hr
   simp [hk]
  ·rw [Yb h3] at hj hr;rw [Array.getElem?_setIfInBounds_ne (Ne.symm h3)];by_cases h4:j=i
   ·subst h4;rw [Ya rfl] at hj hr;cases hj
    cases hr
    simp [hi]
   ·rw [Yb h4] at hj hr;rw [Array.getElem?_setIfInBounds_ne (Ne.symm h4)];exact h2 j b c row hj hr
 ·obtain ⟨j',hj',hr'⟩:=hsw j b c hj;rw [hr] at hr';obtain ⟨hc,cs,h1,h2⟩:=h.inner j' b c row hj' hr';exact ⟨hc,cs,bFz (bFz h1 (hne _ _ _ hj') _) (hne _ _ _ hj') _,h2⟩
 ·have:=(swapL_perm (bs.map Prod.fst) i k).nodup_iff.2 h.nodup;rwa [<-swapL_map] at this
structure RedSt (W wr:World) (g fb ab tb o:Nat) (wb:Int) (S S0:Nat->Prop) (m co L at_:Nat) (bs:List (Nat×Nat)) (rows:List (List Int)):Prop where
 mx:Mx wr o bs rows
 rd:Rd wr g fb ab tb o wb S0 m co (at_:Int)
 fd:Fd wr g wb (fpoly wb) S
 bsw:BS W wr g S0
 sb: ∀(i b c:Nat),bs[i]?=some (b,c)->S0 b
 so:S0 o
 s0: ∀k,S0 k->S k
 st:S tb
 len:rows.length=m
 each: ∀row,row∈rows->row.length=L
 tbw:W.heap.size<=tb
 ne:fb≠tb/\ab≠tb
namespace RedSt
variable {W wr w1 : World} {g fb ab tb o : Nat} {wb : Int} {S S0 : Nat -> Prop} {m co L at_ : Nat} {bs : List (Nat × Nat)} {rows : List (List Int)}
theorem ng (h:RedSt W wr g fb ab tb o wb S S0 m co L at_ bs rows):o≠g/\ ∀(i b c:Nat),bs[i]?=some (b,c)->b≠g:=by
 obtain ⟨cs,hc⟩:=h.fd.typed;exact h.mx.ne_g hc
theorem drewN (h:RedSt W wr g fb ab tb o wb S S0 m co L at_ bs rows) (n:Nat):RedSt W (wr.drewN n) g fb ab tb o wb S S0 m co L at_ bs rows:=
 ⟨h.mx.drewN n,h.rd.bs ((BS.refl _ _ _).drewN n),h.fd.drewN n,h.bsw.drewN n,h.sb,h.so,h.s0,h.st,h.len,h.each,h.tbw,h.ne⟩
theorem drew (h:RedSt W wr g fb ab tb o wb S S0 m co L at_ bs rows):RedSt W wr.drew g fb ab tb o wb S S0 m co L at_ bs rows:=h.drewN 1
theorem alloc (h:RedSt W wr g fb ab tb o wb S S0 m co L at_ bs rows) (x:Obj):RedSt W (wr.alloc x) g fb ab tb o wb S S0 m co L at_ bs rows:=
 ⟨h.mx.alloc x,h.rd.bs ((BS.refl _ _ _).alloc x),h.fd.alloc x,h.bsw.alloc x,h.sb,h.so,h.s0,h.st,h.len,h.each,h.tbw,h.ne⟩
theorem bb (h:RedSt W wr g fb ab tb o wb S S0 m co L at_ bs rows) (hf:Fd w1 g wb (fpoly wb) S) (hb:BB wr w1 g):RedSt W w1 g fb ab tb o wb S S0 m co L at_ bs rows:=
 ⟨h.mx.bb h.ng hb,h.rd.bs (BS.of_bb hb),hf,h.bsw.trans (BS.of_bb hb),h.sb,h.so,h.s0,h.st,h.len,h.each,h.tbw,h.ne⟩
theorem setI (h : RedSt W wr g fb ab tb o wb S S0 m co L at_ bs rows) {i b c : Nat} {row : List Int} (hb : bs[i]? = some (b, c)) (hr : rows[i]? = some row) (j : Nat) (x : Int) :
  RedSt W (wr.setCell ⟨b,j,none⟩ (.int .i64 x)) g fb ab tb o wb S S0 m co L at_ bs (rows.set i (row.set j x)):=by
 have hs:=h.sb _ _ _ hb;refine ⟨h.mx.set hb hr x,h.rd.bs ((BS.refl _ _ _).set (p:=⟨b,j,none⟩) (.inl hs) _),h.fd.set (q:=⟨b,j,none⟩) (h.s0 _ hs) _,h.bsw.set (p:=⟨b,j,none⟩) (.inl hs) _,h.sb,h.so,h.s0,h.st,by rw [List.length_set];exact h.len,fun r hr'=> ?_,h.tbw,h.ne⟩;rcases List.mem_or_eq_of_mem_set hr' with h1|h1
 ·exact h.each r h1
 ·rw [h1,List.length_set];exact h.each row (Zo hr)
theorem swap (h : RedSt W wr g fb ab tb o wb S S0 m co L at_ bs rows) {i k bi ci bk ck : Nat} (hbi : bs[i]? = some (bi, ci)) (hbk : bs[k]? = some (bk, ck)) :
  RedSt W ((wr.setCell ⟨o,i,none⟩ (.slice (some ⟨bk,0,none⟩) L ck)).setCell ⟨o,k,none⟩ (.slice (some ⟨bi,0,none⟩) L ci)) g fb ab tb o wb S S0 m co L at_ (swapL bs i k) (swapL rows i k):=by
 have hl:=h.mx.len;obtain ⟨ri,hri⟩: ∃r,rows[i]?=some r:=⟨_,Zf (by have:=(Zk hbi).1;omega)⟩;obtain ⟨rk,hrk⟩: ∃r,rows[k]?=some r:=⟨_,Zf (by have:=(Zk hbk).1;omega)⟩;have e1:=h.each ri (Zo hri);have e2:=h.each rk (Zo hrk);have hm:=h.mx.swap hbi hbk hri hrk;rw [e1,e2] at hm;have s1:BS wr ((wr.setCell ⟨o,i,none⟩ (.slice (some ⟨bk,0,none⟩) L ck)).setCell ⟨o,k,none⟩ (.slice (some ⟨bi,0,none⟩) L ci)) g S0:=(((BS.refl wr g S0).set (p:=⟨o,i,none⟩) (.inl h.so) _).set (p:=⟨o,k,none⟩) (.inl h.so) _);refine ⟨hm,h.rd.bs s1,(h.fd.set (q:=⟨o,i,none⟩) (h.s0 _ h.so) _).set (q:=⟨o,k,none⟩) (h.s0 _ h.so) _,h.bsw.trans s1,fun j b c hj=> ?_,h.so,h.s0,h.st,by rw [dfz];exact h.len,fun r hr=>h.each r (swapL_mem _ _ _ _ hr),h.tbw,h.ne⟩;rw [dgz bs i k _ _ hbi hbk] at hj;by_cases h1:j=k
 ·rw [Ya h1] at hj;cases hj;exact h.sb _ _ _ hbi
 ·rw [Yb h1] at hj;by_cases h2:j=i
  ·rw [Ya h2] at hj;cases hj;exact h.sb _ _ _ hbk
  ·rw [Yb h2] at hj;exact h.sb _ _ _ hj
theorem clr (h:RedSt W wr g fb ab tb o wb S S0 m co L at_ bs rows) {rows':List (List Int)} (hm:Mx w1 o bs rows') (hf:Fd w1 g wb (fpoly wb) S) (hb:BS wr w1 g S0) (hl:rows'.length=m) (he: ∀row,row∈rows'->row.length=L):RedSt W w1 g fb ab tb o wb S S0 m co L at_ bs rows':=
 ⟨hm,h.rd.bs hb,hf,h.bsw.trans hb,h.sb,h.so,h.s0,h.st,hl,he,h.tbw,h.ne⟩
theorem setT (h:RedSt W wr g fb ab tb o wb S S0 m co L at_ bs rows) (z:Nat):RedSt W (wr.setCell ⟨tb,0,none⟩ (.int .i64 (z:Int))) g fb ab tb o wb S S0 m co L z bs rows:=by
 have hto:tb≠o:=fun e=>h.rd.tS (e▸h.so)
 have htb: ∀(i b c:Nat),bs[i]?=some (b,c)->b≠tb:=fun i b c hb e=>h.rd.tS (e▸h.sb _ _ _ hb)
 refine ⟨h.mx.move (Below.heap_setCell _ _ _ _ (Ne.symm hto)) (fun i b c hi=>Below.heap_setCell _ _ _ _ (htb i b c hi)),⟨bFz h.rd.f h.ne.1 _,bFz h.rd.a h.ne.2 _,cJz h.rd.t 0 _ rfl,h.rd.fS,h.rd.aS,h.rd.tS,h.rd.fg,h.rd.ag,h.rd.tg⟩,h.fd.set (q:=⟨tb,0,none⟩) h.st _,h.bsw.set (p:=⟨tb,0,none⟩) (.inr h.tbw) _,h.sb,h.so,h.s0,h.st,h.len,h.each,h.tbw,h.ne⟩
end RedSt
theorem dMz (a b:Nat) (ha:a<2^62) (hb:b<2^62):Go.bits .xor .i64 (a:Int) (b:Int)=((a^^^b:Nat):Int):=by
 have h:a^^^b<2^62:=Nat.xor_lt_two_pow ha hb;show IntKind.i64.wrap ((BitVec.ofInt 64 (a:Int)^^^BitVec.ofInt 64 (b:Int)).toNat:Int)=_;rw [BitVec.toNat_xor,ofInt64 a (by omega),ofInt64 b (by omega),IntKind.wrap_i64];omega
theorem dtz {wb:Int} (hw:wb=8\/wb=16):(fsize wb=256/\wb=8)\/(fsize wb=65536/\wb=16):=by
 rcases hw with rfl|rfl
 ·exact .inl ⟨rfl,rfl⟩
 ·exact .inr ⟨rfl,rfl⟩
theorem eEz {wb:Int} (hw:wb=8\/wb=16) {a b:Int} (ha:0<=a/\a<fsize wb) (hb:0<=b/\b<fsize wb):0<=Go.bits .xor .i64 a b/\Go.bits .xor .i64 a b<fsize wb:=by
 obtain ⟨x,rfl⟩: ∃x:Nat,a=x:=⟨a.toNat,by omega⟩;obtain ⟨y,rfl⟩: ∃y:Nat,b=y:=⟨b.toNat,by omega⟩;rcases dtz hw with ⟨e, -⟩|⟨e, -⟩<;>rw [e] at ha hb|-
 ·have:=Nat.xor_lt_two_pow (x:=x) (y:=y) (n:=8) (by omega) (by omega);rw [dMz x y (by omega) (by omega)];omega
 ·have:=Nat.xor_lt_two_pow (x:=x) (y:=y) (n:=16) (by omega) (by omega);rw [dMz x y (by omega) (by omega)];omega
def Good (wb:Int) (L:Nat) (row:List Int):Prop:=row.length=L/\ ∀x,x∈row->0<=x/\x<fsize wb
theorem zip_good {wb:Int} {L:Nat} (f:Int->Int->Int) {r p:List Int} (hr:Good wb L r) (hp:Good wb L p) (hf: ∀x y,(0<=x/\x<fsize wb)->(0<=y/\y<fsize wb)->0<=f x y/\f x y<fsize wb):Good wb L (List.zipWith f r p):=by
 refine ⟨by rw [List.length_zipWith,hr.1,hp.1,Nat.min_self],fun x hx=> ?_⟩;obtain ⟨i,hi,rfl⟩:=List.getElem_of_mem hx;rw [List.getElem_zipWith];exact hf _ _ (hr.2 _ (List.getElem_mem _)) (hp.2 _ (List.getElem_mem _))
theorem e9z {wb:Int} (hw:wb=8\/wb=16) (L c:Nat) (rows:List (List Int)) (at_:Nat) (h: ∀r,r∈rows->Good wb L r):(∀r,r∈(redStep wb c rows at_).1->Good wb L r)/\(redStep wb c rows at_).1.length=rows.length:=by
 unfold redStep;have hz:=dFz (nzB c) (rows.drop at_)
 generalize idxF (nzB c) (rows.drop at_)=z at *
 dsimp only;by_cases hneg:z<0
 ·rw [Ya hneg];exact ⟨h,rfl⟩
 ·rw [Yb hneg];rw [List.length_drop] at hz;have h1: ∀r,r∈swapL rows at_ (at_+z.toNat)->Good wb L r:=fun r hr=>h r (swapL_mem _ _ _ _ hr)
  have hl:=dfz rows at_ (at_+z.toNat)
  generalize swapL rows at_ (at_+z.toNat)=r1 at *
  have hp:Good wb L (r1.getD at_ []):=by
   rw [Zm,Zf (show at_<r1.length by omega)];exact h1 _ (List.getElem_mem _)
  generalize r1.getD at_ [] =pr at *
  have hp2:Good wb L (List.zipWith (fun x _=>gmul wb x (ginv wb (pr.getD c 0))) pr pr):=zip_good _ hp hp (fun x y _ _=>bRz hw _ _)
  generalize List.zipWith (fun x _=>gmul wb x (ginv wb (pr.getD c 0))) pr pr=p2 at *
  refine ⟨fun r hr=> ?_,by rw [csz,List.length_set,hl]⟩;unfold clrAll at hr;rw [List.mem_mapIdx] at hr;obtain ⟨i,hi,rfl⟩:=hr
  have hg:Good wb L (r1.set at_ p2)[i] :=by
   rcases List.mem_or_eq_of_mem_set (List.getElem_mem hi) with h3|h3
   ·exact h1 _ h3
   ·rw [h3];exact hp2
  split
  ·exact hg
  ·exact zip_good _ hg hp2 (fun x y hx hy=>eEz hw hx (bRz hw _ _))
theorem redF_good {wb:Int} (hw:wb=8\/wb=16) (L:Nat): ∀(k c:Nat) (rows:List (List Int)) (at_:Nat),(∀r,r∈rows->Good wb L r)->(∀r,r∈(redF wb k c rows at_).1->Good wb L r)/\(redF wb k c rows at_).1.length=rows.length
 |0,_,rows,_,h=>⟨h,rfl⟩
 |k+1,c,rows,at_,h=>by
  unfold redF;split
  ·exact ⟨h,rfl⟩
  ·have h1:=e9z hw L c rows at_ h;have h2:=redF_good hw L k (c+1) _ (redStep wb c rows at_).2 h1.1;exact ⟨h2.1,h2.2.trans h1.2⟩
theorem d6z {wb:Int} (hw:wb=8\/wb=16) (a:Int) (n:Nat):0<=gpow wb a n/\gpow wb a n<fsize wb:=by
 have hz:(0:Int)<fsize wb:=by rcases hw with rfl|rfl<;>decide
 unfold gpow;split
 ·rename_i h
  simp only [Bool.and_eq_true,inF,decide_eq_true_eq] at h;exact ⟨by omega,gpwN_lt hw (by omega) _⟩
 ·omega
theorem Raw1.calls (g fb : Nat) (wb : Int) (S : Nat -> Prop) (i j : Nat) (W : World) (hw : wb = 8 \/ wb = 16) (hF : Fd W g wb (fpoly wb) S) (hS : ∀ k, S k -> k < W.heap.size) (hb : W.heap[fb]? = some (.cells #[.pointer (some ⟨g, 0, none⟩)] 72 (0, 0))) (hi : i <= 100) (hj : j <= 100) :
  Calls Tryz.prog 183 #[.int .i64 (i:Int), .int .i64 (j:Int), .pointer (some ⟨fb,0,none⟩)] W fun e w'=>e= .returned (.int .i64 (gpow wb (i:Int) (j:Int)))/\Fd w' g wb (fpoly wb) S/\BB W w' g:=by
 have hc:W.cell? ⟨fb,0,none⟩=some (.pointer (some ⟨g,0,none⟩)):=(abz hb 0).trans rfl;have HP:=Za (gf_Pow.calls g S wb (i:Int) j W (by omega) hw hF hS);clear hF hS hw hb;go_enter Tryz.func183,Tryz.ntmps183
 go_wp2_with (first|(go_at_call 122;refine HP.out.mono ?_;rintro e w3 ⟨rfl,q1,q2⟩))
 go_ret;exact ⟨rfl,q1,q2⟩
theorem fits.calls (g k m : Nat) (W : World) (h1 : 1 <= k) (h2 : 1 <= m) (h3 : k < 20) (h4 : m < 20) (h5 : k + m <= 20) :
  Calls Tryz.prog 119 #[.pointer (some ⟨g,0,none⟩), .int .i64 (k:Int), .int .i64 (m:Int)] W fun e w'=>e= .returned (.bool true)/\w'=W:=by
 have e1:decide ((1:Int)<=(k:Int))=true:=by simp;omega
 have e2:decide ((1:Int)<=(m:Int))=true:=by simp;omega
 have e3:decide ((k:Int)<20)=true:=by simp;omega
 have e4:decide ((m:Int)<20)=true:=by simp;omega
 have e5:(k:Int)+(m:Int)<=20:=by omega
 have e6:wrap64 ((k:Int)+(m:Int))=(k:Int)+(m:Int):=by unfold wrap64;omega
 go_enter Tryz.func119,Tryz.ntmps119;go_wp2;go_ret;simp
theorem Isal1.calls (g fb : Nat) (wb : Int) (S : Nat -> Prop) (i j : Nat) (W : World) (hw : wb = 8 \/ wb = 16) (hF : Fd W g wb (fpoly wb) S) (hS : ∀ k, S k -> k < W.heap.size) (hb : W.heap[fb]? = some (.cells #[.pointer (some ⟨g, 0, none⟩)] 72 (0, 0))) (hi : i <= 100) (hj : j <= 100) :
  Calls Tryz.prog 121 #[.int .i64 (i:Int), .int .i64 (j:Int), .pointer (some ⟨fb,0,none⟩)] W fun e w'=>e= .returned (.int .i64 (gpow wb (gpow wb 2 (i:Int)) (j:Int)))/\Fd w' g wb (fpoly wb) S/\BB W w' g:=by
 have hc:W.cell? ⟨fb,0,none⟩=some (.pointer (some ⟨g,0,none⟩)):=(abz hb 0).trans rfl
 have hne:fb≠g:=by
  obtain ⟨gcs,hg⟩:=Fd.cells hF;rintro rfl;rw [hb] at hg;injection hg with hg
  injection hg with _ hg
  exact Yf hg (by decide)
 have HP:=Za (gf_Pow.calls g S wb 2 i W.drew (by omega) hw hF.drew hS);have HQ:=Za (fun (w3:World) (q1:Fd w3 g wb (fpoly wb) S) (q2:BB W.drew w3 g)=>gf_Pow.calls g S wb (gpow wb 2 i) j w3 (by omega) hw q1 (fun k hk=>Zp (hS k hk) q2.size));have HC:=Za (show∀w3,BB W.drew w3 g->w3.cell? ⟨fb,0,none⟩=some (.pointer (some ⟨g,0,none⟩)) from fun w3 q=>(abz ((q.block fb (a8z hb) hne).trans hb) 0).trans rfl);clear hF hS hw hb hne;go_enter Tryz.func121,Tryz.ntmps121;go_wp2;refine bPz (n:=7) (S:=fun w'=>w'.cell? ⟨fb,0,none⟩=some (.pointer (some ⟨g,0,none⟩))) (ds:= [5]) (bA 7 0) kr_ rfl rfl (hc) (fun hHeld=> ?_);refine pu_ 2 8 4 ?_;refine pu_ 4 10 20 ?_;refine tk_ 0 6 21 hHeld ?_;refine tk_ 1 7 23 hHeld ?_;refine one_ (i:=3) (N:=some 9) (bA 7 31) rfl rfl kr_ (by decide) (fun K hK=> ?_);refine goes_ Tryz.func122 kr_ rfl #[.pointer (some ⟨g,0,none⟩), .int .i64 2, .int .i64 (i:Int)] (by rfl) rfl rfl am_ ?_
 with_reducible refine (HP.out).mono ?_
 rintro e w3 ⟨rfl,q1,q2⟩;refine ⟨_,rfl,?_⟩;have hc3:=HC.out w3 q2;have HQ3:=Za (HQ.out w3 q1 q2);have Q2:=Za q2;clear q1 q2;refine hK.out _ _ (hc3) (fun hHeld=> ?_);clear hK K;refine norm_ (a':= ?_) ?_ ?_;rotate_left
 ·show Act.put _ (some 9) _=_;simp only [Act.put,Zg,Zh,Zi,i64_w,i32_w];rfl
 refine last_ (i:=5) (N:=some 11) (bA 7 63) rfl rfl kr_ (by decide) (fun K hK=> ?_);refine goes_ Tryz.func122 kr_ rfl #[.pointer (some ⟨g,0,none⟩), .int .i64 (gpow wb 2 (i:Int)), .int .i64 (j:Int)] (by rfl) rfl rfl am_ ?_
 with_reducible refine (HQ3.out).mono ?_
 rintro e w4 ⟨rfl,q1,q2⟩;refine ⟨_,rfl,?_⟩;refine hK.out _ _ ?_;clear hK K;refine norm_ (a':= ?_) ?_ ?_;rotate_left
 ·show Act.put _ (some 11) _=_;simp only [Act.put,Zg,Zh,Zi,i64_w,i32_w];rfl
 refine pu_ 6 5 127 ?_;refine done_ kr_ ?_;go_wp2;go_ret;exact ⟨rfl,q1,⟨q2.os.trans Q2.out.os,q2.tape.trans Q2.out.tape,q2.output.trans Q2.out.output,Zt Q2.out.size q2.size,fun i hi hg=>(q2.block i (Zp hi Q2.out.size) hg).trans (Q2.out.block i hi hg)⟩⟩
def madeF (tf:Nat->Nat->Int) (rows cols:Nat):List (List Int):=(List.range rows).map fun i=>(List.range cols).map (tf i)
theorem eRz (tf:Nat->Nat->Int) (k cols:Nat):madeF tf (k+1) cols=madeF tf k cols++ [(List.range cols).map (tf k)] :=by simp [madeF,List.range_succ]
theorem dVz (f:Nat->Int) (n:Nat):(List.range (n+1)).map f=(List.range n).map f++ [f n] :=by simp [List.range_succ]
theorem fb_ne {W:World} {g fb:Nat} {wb p:Int} {S:Nat->Prop} {cs:Array Value} {t:Nat} (hF:Fd W g wb p S) (hb:W.heap[fb]?=some (.cells cs t (0,0))) (ht:t≠172):fb≠g:=by
 obtain ⟨gcs,hg⟩:=Fd.cells hF;rintro rfl;rw [hb] at hg;injection hg with hg
 injection hg with _ hg
 exact ht hg
theorem Fd.appended {X Y:World} {g:Nat} {wb p:Int} {S:Nat->Prop} {v v1:Value} (h:Fd X g wb p (fun q=>S q\/some q=v.ownBlock)) (hg:X.grownBy Y v.ownBlock) (hat:v1.ownBlock=v.ownBlock\/ ∃b,v1.ownBlock=some b/\X.heap.size<=b):Fd Y g wb p (fun q=>S q\/some q=v1.ownBlock):=by
 refine (Fd.grow h (fun k e=> .inr e.symm) hg).thin (fun q hq hs=> ?_);rcases hs with hs|hs
 ·exact .inl (.inl hs)
 ·rcases hat with hat|⟨bb,hat,hbb⟩
  ·exact .inl (.inr (hs.trans hat))
  ·rw [hat] at hs;cases hs;exact .inr hbb
theorem S_join {wq w2 : World} {g B e t gt : Nat} {gcs : Array Value} {u uv : Value} {xs : List (List Int)} {R : List Int} (HO : Kd.S (dM e .i64) t wq B (fun _ => True) u xs) (hg : wq.heap[g]? = some (.cells gcs gt (0, 0))) (ht : ∀ q, q ∈ t :: (dM e .i64).E -> q ≠ gt) (hb : BB wq w2 g) (hR : (Kd.int .i64).R e w2 wq.heap.size (fun _ => True) uv R) (hB : B <= wq.heap.size) :
    Kd.S (dM e .i64) t w2 B (fun k'=>True/\ ¬wq.heap.size<=k') u xs/\(dM e .i64).M w2 B (fun k'=>wq.heap.size<=k') R [uv] /\(∀k',wq.heap.size<=k'->True/\some k'≠u.ownBlock):=
  ⟨Kd.cOz (Kd.S_move (Kd.bVz (Kd.dRz HO hg ht)) (fun q hq=>hb.block q hq.2.2.1 hq.1.2)) (fun q hq=>⟨trivial,by have:=hq.2.2.1;omega⟩),
   ⟨_,rfl,Kd.bAz (Kd.aSz (Kd.cmz hR) (fun q hq=>hq.2.1)) hB⟩,
   fun q hq=>⟨trivial,fun e=>by have:=Kd.R_lt (Kd.S_R HO) q e.symm;omega⟩⟩
theorem madeRaw.calls (g fb : Nat) (wb : Int) (S : Nat -> Prop) (rows cols : Nat) (W : World) (hw : wb = 8 \/ wb = 16) (hF : Fd W g wb (fpoly wb) S) (hS : ∀ k, S k -> k < W.heap.size) (hb : W.heap[fb]? = some (.cells #[.pointer (some ⟨g, 0, none⟩)] 72 (0, 0))) (hr : rows <= 100) (hc : cols <= 100) :
  Calls Tryz.prog 120 #[.int .i64 (rows:Int), .int .i64 (cols:Int), .func (.func 183) #[] #[.pointer (some ⟨fb,0,none⟩)]] W fun e w'=> ∃v,e= .returned v/\Kd.S (dM 3 .i64) 57 w' W.heap.size (fun _=>True) v (madeF (fun (i j:Nat)=>gpow wb (i:Int) (j:Int)) rows cols)/\Fd w' g wb (fpoly wb) S/\BB W w' g:=by
 have HW:=Za hw;have HS:=Za hS;have HB:=Za hb;have HNE:=Za (fb_ne hF hb (by decide));have HF:=Za (show Fd W g wb (fpoly wb) (fun q=>S q\/some q=(Value.slice none 0 0).ownBlock) from hF.thin (fun q _ hs=>hs.elim id (fun e=>by simp [Value.ownBlock] at e)));obtain ⟨tf,htf⟩: ∃tf:Nat->Nat->Int,(fun (i j:Nat)=>gpow wb (i:Int) (j:Int))=tf:=⟨_,rfl⟩;rw [htf]
 have HT:=Za (show∀(i j:Nat) (S':Nat->Prop) (w:World),Fd w g wb (fpoly wb) S'->(∀k,S' k->k<w.heap.size)->BB W w g->i<=100->j<=100->Calls Tryz.prog 183 #[.int .i64 (i:Int), .int .i64 (j:Int), .pointer (some ⟨fb,0,none⟩)] w fun e w'=>e= .returned (.int .i64 (tf i j))/\Fd w' g wb (fpoly wb) S'/\BB w w' g by
  intro i j S' w h1 h2 h3 h4 h5;subst htf
  exact Raw1.calls g fb wb S' i j w hw h1 h2 ((h3.block fb (a8z hb) (fb_ne hF hb (by decide))).trans hb) h4 h5)
 clear hw hF hS hb htf;go_enter Tryz.func120,Tryz.ntmps120;go_wp2
 go_loopw [7,12] (fun v i wr=> ∃k:Nat,k<=rows/\i= .int .i64 (k:Int)/\Aside0 (Kd.S (dM 3 .i64) 57 wr W.heap.size (fun _=>True) v (madeF tf k cols))/\Aside0 (Fd wr g wb (fpoly wb) (fun q=>S q\/some q=v.ownBlock))/\Aside0 (BB W wr g)) (fun _ i _=>rows - (intOf i).toNat)
 case atStart=>exact ⟨0,Nat.zero_le _,rfl,⟨Kd.S_nil _ _ _ _ _⟩,HF,⟨BB.refl _ _⟩⟩
 clear HF;obtain ⟨wq,rfl⟩: ∃wq,wq=wr:=⟨_,rfl⟩;obtain ⟨k,hk,rfl,HO,HF,HBB⟩:=hrel;by_cases hlt:k<rows
 ·have HF2:=Za (show Fd wq g wb (fpoly wb) (fun q=>(S q\/some q=u7.ownBlock)\/some q=(Value.slice none 0 0).ownBlock) from HF.out.thin (fun q _ hs=>hs.elim id (fun e=>by simp [Value.ownBlock] at e)));go_wp2
  go_loopw [9,16] (fun u j w2=> ∃n:Nat,n<=cols/\j= .int .i64 (n:Int)/\Aside0 ((Kd.int .i64).R 3 w2 wq.heap.size (fun _=>True) u ((List.range n).map (tf k)))/\Aside0 (Fd w2 g wb (fpoly wb) (fun q=>(S q\/some q=u7.ownBlock)\/some q=u.ownBlock))/\Aside0 (BB wq w2 g)) (fun _ j _=>cols - (intOf j).toNat)
  case atStart=>exact ⟨0,Nat.zero_le _,rfl,⟨Kd.R_nil _ _ _ _ _⟩,HF2,⟨BB.refl _ _⟩⟩
  clear HF2;obtain ⟨w2,rfl⟩: ∃w2,w2=wr:=⟨_,rfl⟩;obtain ⟨n,hn,rfl,HR,HF2,HB2⟩:=hrel;by_cases hlt2:n<cols
  ·have hSS : ∀ q, ((S q \/ some q = u7.ownBlock) \/ some q = u9.ownBlock) -> q < w2.heap.size := by
    have s1:=HB2.out.size;have s2:=HBB.out.size;rintro q ((h|h)|h)
    ·have:=HS.out q h;omega
    ·have:=Kd.R_lt (Kd.S_R HO.out) q h.symm;omega
    ·exact Kd.R_lt HR.out q h.symm
   have HTC:=Za (HT.out k n _ w2 HF2.out hSS (HBB.out.trans HB2.out) (by omega) (by omega));have HSZ:=Za (show wq.heap.size<=w2.heap.size from HB2.out.size);obtain ⟨gcs,hgcs⟩:=Fd.cells HF2.out;have HR3:=Za (show∀w3,BB w2 w3 g->(Kd.int .i64).R 3 w3 wq.heap.size (fun _=>True) u9 ((List.range n).map (tf k)) from fun w3 hb3=>Kd.aSz (Kd.c2z (Kd.cRz HR.out hgcs (by decide)) (fun q hq hlt=>hb3.block q hlt hq.2)) (fun _ _=>trivial));have HLL:=Za (show ((List.range n).map (tf k)).length<=100 by simp;omega);have HRS:=Za (dVz (tf k) n);generalize (List.range n).map (tf k)=pre at HR HR3 HLL HRS;generalize tf k n=z at HTC HRS;clear hSS hgcs
   go_wp2_with fail
   refine HTC.out.mono ?_;rintro e w3 ⟨rfl,q1,q2⟩;have HR4:=Za (HR3.out w3 q2);have HF3:=Za q1;have HB3:=Za (HB2.out.trans q2);have HZ3:=Za (Zt HSZ.out q2.size);clear q1 q2 HTC HR3
   go_wp2_with ((with_reducible refine aoz (b:= .append) (xs:= #[.tmp 19, .tmp 24]) rfl ?_);go_must (at_builtin;refine Kd.bmz (Kd.int .i64) (w0:=w3) wq.heap.size rfl (.tmp 19) (.tmp 24) 57 3 (.int .i64 0) 8 rfl Tryz.underlying57 kr_ rfl (by decide) (by decide) _ _ z [.int .i64 z] (fun _=>True) (fun _=>False) rfl rfl rfl (fun _ h=>h.elim) (fun _ _=>trivial) HR4.out (Zw _ _) HZ3.out ?aL ?_;(case aL=>have:=HLL.out;omega));intro v2 w4 ho2 hb2 hg2 hat2;have HO2:=Za ho2;have HB4:=Za hb2;have HG2:=Za (show w3.grownBy w4 u9.ownBlock from hg2);have HA2:=Za (show v2.ownBlock=u9.ownBlock\/ ∃b,v2.ownBlock=some b/\w3.heap.size<=b from hat2);clear ho2 hb2 hg2 hat2)
   go_roundw
   case rel=>exact ⟨n+1,by omega,by go_num,⟨by rw [HRS.out];exact HO2.out⟩,⟨Fd.appended HF3.out HG2.out HA2.out⟩,⟨HB3.out.os▸HB4.out.os,HB3.out.tape▸HB4.out.tape,HB3.out.output▸HB4.out.output,Zt HB3.out.size HB4.out.size,fun i hi hg=>(HB4.out.block i hi).trans (HB3.out.block i hi hg)⟩⟩
   case measure=>simp [intOf];omega
  ·obtain rfl:n=cols:=by omega
   obtain ⟨gcs,hgcs⟩:=Fd.cells HF.out;have hj:=S_join HO.out hgcs (by decide) HB2.out HR.out HBB.out.size;have HLZ:=Za (show (madeF tf k n).length<=1000 by simp [madeF];omega);obtain ⟨va,vc,rfl⟩:=Kd.a3z HR.out;have HMS:=Za (eRz tf k n)
   generalize ((List.range n).map (tf k)).length=nn at *
   generalize (List.range n).map (tf k)=R at hj HMS;have HS1:=Za hj.1;have HM1:=Za hj.2.1;have HOK:=Za hj.2.2;have HSW:=Za (show W.heap.size<=w2.heap.size from Zt HBB.out.size HB2.out.size);have HF5:=Za (show Fd w2 g wb (fpoly wb) (fun q=>S q\/some q=u7.ownBlock) from HF2.out.thin (fun q _ hs=> .inl hs));clear hj hgcs HF2 HR
   go_wp2_with ((with_reducible refine aoz (b:= .append) (xs:= #[.tmp 27, .tmp 29]) rfl ?_);go_must (at_builtin;refine Kd.b2z (dM 3 .i64) (w0:=w2) W.heap.size rfl (.tmp 27) (.tmp 29) 69 57 (.slice none 0 0) 24 rfl Tryz.underlying69 kr_ rfl (by decide) (by decide) _ _ R [.slice va nn vc] (fun _=>True) (fun k'=>wq.heap.size<=k') rfl rfl HM1.out HOK.out (fun _ _=>trivial) HS1.out (Zw _ _) HSW.out ?aL ?_;(case aL=>have:=HLZ.out;omega));intro v2 w4 ho2 hb2 hg2 hat2;have HO2:=Za ho2;have HB4:=Za hb2;have HG2:=Za (show w2.grownBy w4 u7.ownBlock from hg2);have HA2:=Za (show v2.ownBlock=u7.ownBlock\/ ∃b,v2.ownBlock=some b/\w2.heap.size<=b from hat2);clear ho2 hb2 hg2 hat2)
   go_roundw
   case rel=>exact ⟨k+1,by omega,by go_num,⟨by rw [HMS.out];exact HO2.out⟩,⟨Fd.appended HF5.out HG2.out HA2.out⟩,⟨⟨HB4.out.os.trans (HB2.out.os.trans HBB.out.os),HB4.out.tape.trans (HB2.out.tape.trans HBB.out.tape),HB4.out.output.trans (HB2.out.output.trans HBB.out.output),Zt HSW.out HB4.out.size,fun i hi hg=>(HB4.out.block i hi).trans ((HB2.out.block i (Zp hi HBB.out.size) hg).trans (HBB.out.block i hi hg))⟩⟩⟩
   case measure=>simp [intOf];omega
 ·obtain rfl:k=rows:=by omega
  have HO2:=Za HO.out;go_wp2;go_ret;exact ⟨_,rfl,HO2.out,HF.out.thin (fun q _ hs=> .inl hs),HBB.out⟩
theorem madeIsal.calls (g fb : Nat) (wb : Int) (S : Nat -> Prop) (rows cols : Nat) (W : World) (hw : wb = 8 \/ wb = 16) (hF : Fd W g wb (fpoly wb) S) (hS : ∀ k, S k -> k < W.heap.size) (hb : W.heap[fb]? = some (.cells #[.pointer (some ⟨g, 0, none⟩)] 72 (0, 0))) (hr : rows <= 100) (hc : cols <= 100) :
  Calls Tryz.prog 120 #[.int .i64 (rows:Int), .int .i64 (cols:Int), .func (.func 121) #[] #[.pointer (some ⟨fb,0,none⟩)]] W fun e w'=> ∃v,e= .returned v/\Kd.S (dM 3 .i64) 57 w' W.heap.size (fun _=>True) v (madeF (fun (i j:Nat)=>gpow wb (gpow wb 2 (i:Int)) (j:Int)) rows cols)/\Fd w' g wb (fpoly wb) S/\BB W w' g:=by
 have HW:=Za hw;have HS:=Za hS;have HB:=Za hb;have HNE:=Za (fb_ne hF hb (by decide));have HF:=Za (show Fd W g wb (fpoly wb) (fun q=>S q\/some q=(Value.slice none 0 0).ownBlock) from hF.thin (fun q _ hs=>hs.elim id (fun e=>by simp [Value.ownBlock] at e)));obtain ⟨tf,htf⟩: ∃tf:Nat->Nat->Int,(fun (i j:Nat)=>gpow wb (gpow wb 2 (i:Int)) (j:Int))=tf:=⟨_,rfl⟩;rw [htf]
 have HT:=Za (show∀(i j:Nat) (S':Nat->Prop) (w:World),Fd w g wb (fpoly wb) S'->(∀k,S' k->k<w.heap.size)->BB W w g->i<=100->j<=100->Calls Tryz.prog 121 #[.int .i64 (i:Int), .int .i64 (j:Int), .pointer (some ⟨fb,0,none⟩)] w fun e w'=>e= .returned (.int .i64 (tf i j))/\Fd w' g wb (fpoly wb) S'/\BB w w' g by
  intro i j S' w h1 h2 h3 h4 h5;subst htf
  exact Isal1.calls g fb wb S' i j w hw h1 h2 ((h3.block fb (a8z hb) (fb_ne hF hb (by decide))).trans hb) h4 h5)
 clear hw hF hS hb htf;go_enter Tryz.func120,Tryz.ntmps120;go_wp2
 go_loopw [7,12] (fun v i wr=> ∃k:Nat,k<=rows/\i= .int .i64 (k:Int)/\Aside0 (Kd.S (dM 3 .i64) 57 wr W.heap.size (fun _=>True) v (madeF tf k cols))/\Aside0 (Fd wr g wb (fpoly wb) (fun q=>S q\/some q=v.ownBlock))/\Aside0 (BB W wr g)) (fun _ i _=>rows - (intOf i).toNat)
 case atStart=>exact ⟨0,Nat.zero_le _,rfl,⟨Kd.S_nil _ _ _ _ _⟩,HF,⟨BB.refl _ _⟩⟩
 clear HF;obtain ⟨wq,rfl⟩: ∃wq,wq=wr:=⟨_,rfl⟩;obtain ⟨k,hk,rfl,HO,HF,HBB⟩:=hrel;by_cases hlt:k<rows
 ·have HF2:=Za (show Fd wq g wb (fpoly wb) (fun q=>(S q\/some q=u7.ownBlock)\/some q=(Value.slice none 0 0).ownBlock) from HF.out.thin (fun q _ hs=>hs.elim id (fun e=>by simp [Value.ownBlock] at e)));go_wp2
  go_loopw [9,16] (fun u j w2=> ∃n:Nat,n<=cols/\j= .int .i64 (n:Int)/\Aside0 ((Kd.int .i64).R 3 w2 wq.heap.size (fun _=>True) u ((List.range n).map (tf k)))/\Aside0 (Fd w2 g wb (fpoly wb) (fun q=>(S q\/some q=u7.ownBlock)\/some q=u.ownBlock))/\Aside0 (BB wq w2 g)) (fun _ j _=>cols - (intOf j).toNat)
  case atStart=>exact ⟨0,Nat.zero_le _,rfl,⟨Kd.R_nil _ _ _ _ _⟩,HF2,⟨BB.refl _ _⟩⟩
  clear HF2;obtain ⟨w2,rfl⟩: ∃w2,w2=wr:=⟨_,rfl⟩;obtain ⟨n,hn,rfl,HR,HF2,HB2⟩:=hrel;by_cases hlt2:n<cols
  ·have hSS : ∀ q, ((S q \/ some q = u7.ownBlock) \/ some q = u9.ownBlock) -> q < w2.heap.size := by
    have s1:=HB2.out.size;have s2:=HBB.out.size;rintro q ((h|h)|h)
    ·have:=HS.out q h;omega
    ·have:=Kd.R_lt (Kd.S_R HO.out) q h.symm;omega
    ·exact Kd.R_lt HR.out q h.symm
   have HTC:=Za (HT.out k n _ w2 HF2.out hSS (HBB.out.trans HB2.out) (by omega) (by omega));have HSZ:=Za (show wq.heap.size<=w2.heap.size from HB2.out.size);obtain ⟨gcs,hgcs⟩:=Fd.cells HF2.out;have HR3:=Za (show∀w3,BB w2 w3 g->(Kd.int .i64).R 3 w3 wq.heap.size (fun _=>True) u9 ((List.range n).map (tf k)) from fun w3 hb3=>Kd.aSz (Kd.c2z (Kd.cRz HR.out hgcs (by decide)) (fun q hq hlt=>hb3.block q hlt hq.2)) (fun _ _=>trivial));have HLL:=Za (show ((List.range n).map (tf k)).length<=100 by simp;omega);have HRS:=Za (dVz (tf k) n);generalize (List.range n).map (tf k)=pre at HR HR3 HLL HRS;generalize tf k n=z at HTC HRS;clear hSS hgcs
   go_wp2_with fail
   refine HTC.out.mono ?_;rintro e w3 ⟨rfl,q1,q2⟩;have HR4:=Za (HR3.out w3 q2);have HF3:=Za q1;have HB3:=Za (HB2.out.trans q2);have HZ3:=Za (Zt HSZ.out q2.size);clear q1 q2 HTC HR3
   go_wp2_with ((with_reducible refine aoz (b:= .append) (xs:= #[.tmp 19, .tmp 24]) rfl ?_);go_must (at_builtin;refine Kd.bmz (Kd.int .i64) (w0:=w3) wq.heap.size rfl (.tmp 19) (.tmp 24) 57 3 (.int .i64 0) 8 rfl Tryz.underlying57 kr_ rfl (by decide) (by decide) _ _ z [.int .i64 z] (fun _=>True) (fun _=>False) rfl rfl rfl (fun _ h=>h.elim) (fun _ _=>trivial) HR4.out (Zw _ _) HZ3.out ?aL ?_;(case aL=>have:=HLL.out;omega));intro v2 w4 ho2 hb2 hg2 hat2;have HO2:=Za ho2;have HB4:=Za hb2;have HG2:=Za (show w3.grownBy w4 u9.ownBlock from hg2);have HA2:=Za (show v2.ownBlock=u9.ownBlock\/ ∃b,v2.ownBlock=some b/\w3.heap.size<=b from hat2);clear ho2 hb2 hg2 hat2)
   go_roundw
   case rel=>exact ⟨n+1,by omega,by go_num,⟨by rw [HRS.out];exact HO2.out⟩,⟨Fd.appended HF3.out HG2.out HA2.out⟩,⟨HB3.out.os▸HB4.out.os,HB3.out.tape▸HB4.out.tape,HB3.out.output▸HB4.out.output,Zt HB3.out.size HB4.out.size,fun i hi hg=>(HB4.out.block i hi).trans (HB3.out.block i hi hg)⟩⟩
   case measure=>simp [intOf];omega
  ·obtain rfl:n=cols:=by omega
   obtain ⟨gcs,hgcs⟩:=Fd.cells HF.out;have hj:=S_join HO.out hgcs (by decide) HB2.out HR.out HBB.out.size;have HLZ:=Za (show (madeF tf k n).length<=1000 by simp [madeF];omega);obtain ⟨va,vc,rfl⟩:=Kd.a3z HR.out;have HMS:=Za (eRz tf k n)
   generalize ((List.range n).map (tf k)).length=nn at *
   generalize (List.range n).map (tf k)=R at hj HMS;have HS1:=Za hj.1;have HM1:=Za hj.2.1;have HOK:=Za hj.2.2;have HSW:=Za (show W.heap.size<=w2.heap.size from Zt HBB.out.size HB2.out.size);have HF5:=Za (show Fd w2 g wb (fpoly wb) (fun q=>S q\/some q=u7.ownBlock) from HF2.out.thin (fun q _ hs=> .inl hs));clear hj hgcs HF2 HR
   go_wp2_with ((with_reducible refine aoz (b:= .append) (xs:= #[.tmp 27, .tmp 29]) rfl ?_);go_must (at_builtin;refine Kd.b2z (dM 3 .i64) (w0:=w2) W.heap.size rfl (.tmp 27) (.tmp 29) 69 57 (.slice none 0 0) 24 rfl Tryz.underlying69 kr_ rfl (by decide) (by decide) _ _ R [.slice va nn vc] (fun _=>True) (fun k'=>wq.heap.size<=k') rfl rfl HM1.out HOK.out (fun _ _=>trivial) HS1.out (Zw _ _) HSW.out ?aL ?_;(case aL=>have:=HLZ.out;omega));intro v2 w4 ho2 hb2 hg2 hat2;have HO2:=Za ho2;have HB4:=Za hb2;have HG2:=Za (show w2.grownBy w4 u7.ownBlock from hg2);have HA2:=Za (show v2.ownBlock=u7.ownBlock\/ ∃b,v2.ownBlock=some b/\w2.heap.size<=b from hat2);clear ho2 hb2 hg2 hat2)
   go_roundw
   case rel=>exact ⟨k+1,by omega,by go_num,⟨by rw [HMS.out];exact HO2.out⟩,⟨Fd.appended HF5.out HG2.out HA2.out⟩,⟨⟨HB4.out.os.trans (HB2.out.os.trans HBB.out.os),HB4.out.tape.trans (HB2.out.tape.trans HBB.out.tape),HB4.out.output.trans (HB2.out.output.trans HBB.out.output),Zt HSW.out HB4.out.size,fun i hi hg=>(HB4.out.block i hi).trans ((HB2.out.block i (Zp hi HBB.out.size) hg).trans (HBB.out.block i hi hg))⟩⟩⟩
   case measure=>simp [intOf];omega
 ·obtain rfl:k=rows:=by omega
  have HO2:=Za HO.out;go_wp2;go_ret;exact ⟨_,rfl,HO2.out,HF.out.thin (fun q _ hs=> .inl hs),HBB.out⟩
end Go.Proofs.Xc
end
