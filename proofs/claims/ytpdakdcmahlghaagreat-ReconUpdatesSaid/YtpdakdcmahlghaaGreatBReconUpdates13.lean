-- Joined texts of this work (wip/tools/bundle.py).
import Derived.RegionCalls
import Derived.Tactics2
import Derived.Defers
import Derived.Laws.Pointers
import Derived.Laws.LoneSync
import Derived.ChangeAlike
import Derived.Laws.NewBlocks
import Derived.Laws.CopyOwn
import Derived.Laws.BitsAllLaws
import Derived.Maps.OwnSet
import Derived.Maps.Views
import Derived.RangeFuncOwn
import Derived.Test.YtpdakdcmahlghaaGreatBReconUpdates12
set_option maxHeartbeats 8000000
set_option maxRecDepth 100000
set_option linter.unusedVariables false
set_option linter.unusedSimpArgs false
section
namespace Go.Proofs.Xc
open Go.RowKit Go.Proofs.Pw Go.Proofs.Pl Go.Proofs.Pm
attribute [local go_sem] a7z a8z bjz bkz aZz a0z a9z baz
theorem fez (w:World):(callFunc 205 #[]).run Tryz.prog w= .ok (.value (.tuple #[])) w:=run_call_mark0 Tryz.func205 kr_ kr_ kr_ .disable kr_ w
theorem once_enable (w:World):(callFunc 207 #[]).run Tryz.prog w= .ok (.value (.tuple #[])) w:=run_call_mark0 Tryz.func207 kr_ kr_ kr_ .enable kr_ w
theorem once_acquire (a:Addr) (w:World):(callFunc 208 #[.pointer (some a)]).run Tryz.prog w= .ok (.value (.tuple #[])) w:=run_call_marked Tryz.func208 kr_ kr_ kr_ .acquire kr_ a w
theorem flz (a:Addr) (w:World):(callFunc 210 #[.pointer (some a)]).run Tryz.prog w= .ok (.value (.tuple #[])) w:=run_call_marked Tryz.func210 kr_ kr_ kr_ .releaseMerge kr_ a w
theorem fbz (a : Addr) (x : Value) (u : FrameMode) (w : World) (hc : w.cell? a = some x) (hz : w.frozen? a = false) :
  CallsD Tryz.prog 200 #[.pointer (some a), .bool true] u w fun e u' w'=>u'=u/\(e= .returned (.tuple #[])/\w'=w.drew.setCell a (.int .u32 1)):=by
 have hc':w.drew.cell? a=some x:=by go_simp
 have hz':w.drew.frozen? a=false:=by go_simp
 have hst:=run_call_store (P:=Tryz.prog) Tryz.func203 kr_ kr_ kr_ kr_ (k:= .u32) (y:=1) hc' hz'
 go_enter_d Tryz.func200,Tryz.ntmps200
 go_wp2
 go_region_calls
 all_goals (go_end0;exact ⟨rfl,rfl⟩)
theorem eZz (a : Addr) (u : FrameMode) (w : World) (hc : w.cell? a = some (.int .i32 1)) (hz : w.frozen? a = false) :
  CallsD Tryz.prog 199 #[.pointer (some a)] u w fun e u' w'=>u'=u/\(e= .returned (.tuple #[])/\w'=w.setCell a (.int .i32 0)):=by
 have hd:=fez;have he:=once_enable;have hr:=flz;have hadd:=run_call_add (P:=Tryz.prog) Tryz.func211 kr_ kr_ kr_ .i32 kr_ (y:= -1) (s:=0) hc hz (by simp [go_sem];rfl);have hcv:=run_convert_to_unsafe (P:=Tryz.prog) (src:=229) (dst:=233) Tryz.underlying229 Tryz.underlying233 kr_ hc
 go_enter_d Tryz.func199,Tryz.ntmps199
 go_wp2
 go_end0
 go_wp2
 go_end0
 exact ⟨rfl,rfl⟩
theorem once_lock_free (a : Addr) (w : World) (hc : w.cell? a = some (.int .i32 0)) (hz : w.frozen? a = false) :
  Calls Tryz.prog 198 #[.pointer (some a)] w fun e w'=>e= .returned (.tuple #[])/\w'=w.setCell a (.int .i32 1):=by
 have hd:=fez;have he:=once_enable;have ha:=once_acquire;have hcas:=run_call_cas_hit (P:=Tryz.prog) Tryz.func206 kr_ kr_ kr_ .i32 kr_ (y:=1) hc hz;have hc':(w.setCell a (.int .i32 1)).cell? a=some (.int .i32 1):=World.cell?_setCell_same w a _ hc;have hcv:=run_convert_to_unsafe (P:=Tryz.prog) (src:=229) (dst:=233) Tryz.underlying229 Tryz.underlying233 kr_ hc';go_enter Tryz.func198,Tryz.ntmps198;go_wp2
 first|go_end0|(simp only [Exit.inBlock,Exit.then];refine bodyPost_ret (results_none rfl _ _ _) rfl ?_)|refine bodyPost_ret (results_none rfl _ _ _) rfl ?_
 go_wp2
 go_end0
 exact ⟨rfl,rfl⟩
def IsReady (W:World) (g:Nat) (w:World):Prop:= ∃a b:Nat,w.heap[g]?=some (.cells (readyF 8 285 a b) 172 (0,0))/\w.heap[a]?=some (.cells (nums .i64 (expAt 255)).toArray 3 (0,0))/\w.heap[b]?=some (.cells (nums .i64 (logAt 255)).toArray 3 (0,0))/\W.heap.size<=a/\W.heap.size<=b/\BB W w g
theorem once_slow (g pl : Nat) (W : World) (hne : g ≠ pl) (hg : W.heap[g]? = some (.cells (freshF 8 285) 172 (0, 0))) (hp : W.heap[pl]? = some (.cells #[.pointer (some ⟨g, 0, none⟩)] 72 (0, 0))) :
  Calls Tryz.prog 193 #[.pointer (some ⟨g,2,none⟩), .func (.func 179) #[] #[.pointer (some ⟨pl,0,none⟩)]] W fun e w'=>e= .returned (.tuple #[])/\IsReady W g w':=by
 have h2:W.cell? ⟨g,2,none⟩=some (.int .u32 0):=(aaz hg 2).trans rfl;have h3:W.cell? ⟨g,3,none⟩=some (.int .i32 0):=(aaz hg 3).trans rfl;have f3:=a6z hg 3;have f2:=a6z hg 2;have hl:=run_call_load (P:=Tryz.prog) Tryz.func197 kr_ kr_ kr_ .u32 kr_ (w:=W.setCell ⟨g,3,none⟩ (.int .i32 1)) (a:=⟨g,2,none⟩) (x:=0) ((World.cell?_setCell_other _ ⟨g,3,none⟩ ⟨g,2,none⟩ _ (by simp)).trans h2);have hg1:(W.setCell ⟨g,3,none⟩ (.int .i32 1)).heap[g]?=some (.cells #[.int .i64 8, .int .u32 285, .int .u32 0, .int .i32 1, .int .u32 0, .slice none 0 0, .slice none 0 0] 172 (0,0)):=cqz hg 3 _ rfl;have hp1:(W.setCell ⟨g,3,none⟩ (.int .i32 1)).heap[pl]?=some (.cells #[.pointer (some ⟨g,0,none⟩)] 72 (0,0)):=bHz hp (Ne.symm hne) _;have HC:=Za (gf_ready1.calls g pl _ _ _ _ hne hg1 hp1);have HBB:=Za (BB.set (BB.refl W g) 3 (.int .i32 1));have hnot: ∀(x:Bool) (w:World),(Op.unary .not (.bool x)).run Tryz.prog w= .ok (.bool (!x)) w:=fun _ _=>rfl
 have hsz:(W.setCell ⟨g,3,none⟩ (.int .i32 1)).heap.size=W.heap.size:=by simp
 have hgl:=aPz hg;clear hg hp hg1 hp1;have HSZ:=Za hsz;have HGL:=Za hgl;clear hgl;clear hsz
 go_enter_defers Tryz.func193,Tryz.ntmps193
 go_wp2_with (go_at_call 198;refine (once_lock_free ⟨g,3,none⟩ _ (by go_simp) (by go_simp)).mono ?_;rintro e w' ⟨rfl,rfl⟩)
 generalize hw1:W.setCell ⟨g,3,none⟩ (.int .i32 1)=w1 at *
 go_wp2_with (first|(go_at_call 179;refine HC.out.mono ?_;rintro e w2 ⟨rfl,a,b,k1,k2,k3,k4,k5,k6⟩)|(go_at_call 192;go_in))
 have f2':=a6z k1 2;have f3':=a6z k1 3;have h2':w2.cell? ⟨g,2,none⟩=some (.int .u32 0):=(aaz k1 2).trans rfl;have h3':w2.cell? ⟨g,3,none⟩=some (.int .i32 1):=(aaz k1 3).trans rfl;go_wp2;refine leaves_cons (f:=200) (args:= #[.pointer (some ⟨g,2,none⟩), .bool true]) (by simp) (by simp [go_sem]) ?_;refine (fbz ⟨g,2,none⟩ (.int .u32 0) .returning _ h2' (by simp [f2'])).mono ?_;rintro e u' w'' ⟨rfl,rfl,rfl⟩;refine leaves_cons (f:=199) (args:= #[.pointer (some ⟨g,3,none⟩)]) (by simp [settle]) (by simp [go_sem]) ?_;refine (eZz ⟨g,3,none⟩ _ _ ?_ (by simp [f3'])).mono ?_
 ·refine (World.cell?_setCell_other _ ⟨g,2,none⟩ ⟨g,3,none⟩ _ (by simp)).trans ?_;rw [World.cell?_drew];exact h3'
 rintro e u' w'' ⟨rfl,rfl,rfl⟩
 have hfin:IsReady W g ((w2.drew.setCell ⟨g,2,none⟩ (.int .u32 1)).setCell ⟨g,3,none⟩ (.int .i32 0)):=by
  have hga:a≠g:=by rintro rfl;have:=HGL.out;have:=HSZ.out;omega
  have hgb:b≠g:=by rintro rfl;have:=HGL.out;have:=HSZ.out;omega
  have k1':(w2.drew).heap[g]?=_:=k1;exact ⟨a,b,cqz (cqz k1' 2 _ rfl) 3 _ rfl,bHz (bHz (show w2.drew.heap[a]?=_ from k2) hga _) hga _,bHz (bHz (show w2.drew.heap[b]?=_ from k3) hgb _) hgb _,by have:=HSZ.out;omega,by have:=HSZ.out;omega,((HBB.out.trans k6).drew.set _ _).set _ _⟩
 simp [Leaves,settle,results,Tryz.results193];exact hfin
theorem once_do_first (g pl : Nat) (W : World) (hne : g ≠ pl) (hg : W.heap[g]? = some (.cells (freshF 8 285) 172 (0, 0))) (hp : W.heap[pl]? = some (.cells #[.pointer (some ⟨g, 0, none⟩)] 72 (0, 0))) :
  Calls Tryz.prog 178 #[.pointer (some ⟨g,2,none⟩), .func (.func 179) #[] #[.pointer (some ⟨pl,0,none⟩)]] W fun e w'=>e= .returned (.tuple #[])/\IsReady W g w':=by
 have h2:W.cell? ⟨g,2,none⟩=some (.int .u32 0):=(aaz hg 2).trans rfl;have HC:=Za (once_slow g pl W hne hg hp);have hl:=run_call_load (P:=Tryz.prog) Tryz.func197 kr_ kr_ kr_ .u32 kr_ h2;have hnot: ∀(x:Bool) (w:World),(Op.unary .not (.bool x)).run Tryz.prog w= .ok (.bool (!x)) w:=fun _ _=>rfl
 clear hg hp;go_enter Tryz.func178,Tryz.ntmps178
 go_wp2_with (first|(go_at_call 193;refine HC.out.mono ?_;rintro e w' ⟨rfl,hR⟩)|(go_at_call 192;go_in))
 go_end0
 exact ⟨rfl,hR⟩
theorem once_do_done (a : Addr) (d : Int) (hd : ¬ d = 0) (fv : Value) (w : World) (h0 : w.cell? a = some (.int .u32 d)) (h' : ⟨a.block, a.off, none⟩ = a) :
  Calls Tryz.prog 178 #[.pointer (some a),fv] w fun e w'=>e= .returned (.tuple #[])/\w'=w:=by
 have hl:=run_call_load (P:=Tryz.prog) Tryz.func197 kr_ kr_ kr_ .u32 kr_ h0;have hnot: ∀(x:Bool) (w:World),(Op.unary .not (.bool x)).run Tryz.prog w= .ok (.bool (!x)) w:=fun _ _=>rfl
 have hd':(d !=0)=true:=by simp [hd]
 clear h';go_enter Tryz.func178,Tryz.ntmps178;go_wp2
 go_end0
 exact ⟨rfl,rfl⟩
theorem IsReady.fd {W w:World} {g:Nat} {S:Nat->Prop} (h:IsReady W g w) (hg: ¬S g) (hS: ∀k,S k->k<W.heap.size):Fd w g 8 285 S/\BB W w g:=by
 obtain ⟨a,b,h1,h2,h3,h4,h5,h6⟩:=h;exact ⟨⟨hg, .inr ⟨rfl,rfl,a,b,h1,h2,h3,fun s=>by have:=hS _ s;omega,fun s=>by have:=hS _ s;omega⟩⟩,h6⟩
def IsTab (g:Nat) (w:World):Prop:= ∃a b:Nat,w.heap[g]?=some (.cells (readyF 8 285 a b) 172 (0,0))/\w.heap[a]?=some (.cells (nums .i64 (expAt 255)).toArray 3 (0,0))/\w.heap[b]?=some (.cells (nums .i64 (logAt 255)).toArray 3 (0,0))
theorem gf_ready.calls (g : Nat) (S : Nat -> Prop) (W : World) (hF : Fd W g 8 285 S) (hS : ∀ k, S k -> k < W.heap.size) :
  Calls Tryz.prog 153 #[.pointer (some ⟨g,0,none⟩)] W fun e w'=>e= .returned (.pointer (some ⟨g,2,none⟩))/\IsTab g w'/\Fd w' g 8 285 S/\BB W w' g/\(W.cell? ⟨g,2,none⟩=some (.int .u32 1)->Below W.heap.size W w'):=by
 have hmf: ∀(fn:Fn) (first cap:Array Value) (w:World),(Instr.makeFunc fn first cap).run Tryz.prog w= .ok (.func fn first cap) w:=fun _ _ _ _=>rfl
 have hlt:=hF.lt;have hne:g≠W.heap.size:=by omega
 have HBB:=Za ((BB.refl W g).alloc (.cells #[.pointer (some ⟨g,0,none⟩)] 72));obtain ⟨hgS,h|⟨-, -,a,b,h1,h2,h3,ha,hb⟩⟩:=hF
 ·have HC:=Za (once_do_first g W.heap.size _ hne (aEz h _) (b7z W (.cells #[.pointer (some ⟨g,0,none⟩)] 72)));have h20:W.cell? ⟨g,2,none⟩=some (.int .u32 0):=(aaz h 2).trans rfl;clear h;go_enter Tryz.func153,Tryz.ntmps153
  go_wp2_with fail
  refine HC.out.mono ?_;rintro e w' ⟨rfl,hR⟩
  have hc:w'.cell? ⟨W.heap.size,0,none⟩=some (.pointer (some ⟨g,0,none⟩)):=by
   obtain ⟨_,_,_,_,_,_,_,hB⟩:=hR;exact (World.cell?_of_block (hB.block _ (by simp) (Ne.symm hne))).trans ((aaz (b7z W _) 0).trans rfl)
  have HR:=Za (Zb (show IsTab g w' by obtain ⟨a,b,h1,h2,h3, -⟩:=hR;exact ⟨a,b,h1,h2,h3⟩) (hR.fd hgS (fun k hk=>by have:=hS k hk;simp;omega)));clear hR;go_wp2;go_ret;exact ⟨rfl,HR.out.1,HR.out.2.1,HBB.out.trans HR.out.2.2,fun h1=>by rw [h20] at h1;injection h1 with h1;injection h1 with _ h1;exact Yf h1 (by decide)⟩
 ·have h0:(W.alloc (.cells #[.pointer (some ⟨g,0,none⟩)] 72)).cell? ⟨g,2,none⟩=some (.int .u32 1):=(aaz (aEz h1 _) 2).trans rfl;have HC:=Za (once_do_done ⟨g,2,none⟩ 1 (by decide) (.func (.func 179) #[] #[.pointer (some ⟨W.heap.size,0,none⟩)]) _ h0 rfl);have HR:=Za (Zb (show IsTab g (W.alloc (.cells #[.pointer (some ⟨g,0,none⟩)] 72)) from ⟨a,b,aEz h1 _,aEz h2 _,aEz h3 _⟩) (show Fd (W.alloc (.cells #[.pointer (some ⟨g,0,none⟩)] 72)) g 8 285 S from ⟨hgS, .inr ⟨rfl,rfl,a,b,aEz h1 _,aEz h2 _,aEz h3 _,ha,hb⟩⟩));clear h0 h1 h2 h3;go_enter Tryz.func153,Tryz.ntmps153
  go_wp2_with fail
  refine HC.out.mono ?_;rintro e w' ⟨rfl,rfl⟩;go_wp2;go_ret;exact ⟨rfl,HR.out.1,HR.out.2,HBB.out,fun _=>alz (Zw _ _) _⟩
theorem exp_cell {w:World} {g:Nat} {t:TypeId} (h:w.heap[g]?=some (.cells (nums .i64 (expAt 255)).toArray t (0,0))) (j:Nat) (hj:j<255):w.cell? ⟨g,j,none⟩=some (.int .i64 (gpN j:Int)):=by
 rw [aaz h j, <-exp_at j hj];have hl:j<(expAt 255).length:=by rw [evz];omega
 generalize expAt 255=l at hl;simp [nums,hl,Zm]
theorem log_cell {w:World} {g:Nat} {t:TypeId} (h:w.heap[g]?=some (.cells (nums .i64 (logAt 255)).toArray t (0,0))) (j:Nat) (hj:j<256):w.cell? ⟨g,j,none⟩=some (.int .i64 ((logAt 255).getD j 0)):=by
 rw [aaz h j];have hl:j<(logAt 255).length:=by rw [ewz];omega
 generalize logAt 255=l at hl;simp [nums,hl,Zm]
theorem gf_Exp.calls (g : Nat) (S : Nat -> Prop) (n : Nat) (W : World) (hn : n <= 1000000) (hF : Fd W g 8 285 S) (hS : ∀ k, S k -> k < W.heap.size) :
  Calls Tryz.prog 154 #[.pointer (some ⟨g,0,none⟩), .int .i64 (n:Int)] W fun e w'=>e= .returned (.int .i64 (gpN (n % 255):Int))/\Fd w' g 8 285 S/\BB W w' g/\(W.cell? ⟨g,2,none⟩=some (.int .u32 1)->Below W.heap.size W w'):=by
 have HF:=Za hF;have HS:=Za hS;have hc0:=hF.bits;clear hF hS;obtain ⟨m,hm⟩: ∃m,n % 255=m:=⟨_,rfl⟩;have hlt:m<255:=by omega
 have e1:Int.tmod (n:Int) 255=(m:Int):=by rw [Int.tmod_eq_emod_of_nonneg (by omega)];omega
 have e1':(n:Int) % 255=(m:Int):=by omega
 have e3':((m:Int)+255) % 255=(m:Int):=by omega
 have e2:IntKind.i64.wrap ((m:Int)+255)=(m:Int)+255:=by rw [IntKind.wrap_i64];omega
 have e3:Int.tmod ((m:Int)+255) 255=(m:Int):=by rw [Int.tmod_eq_emod_of_nonneg (by omega)];omega
 have i1:(0:Int)<=(m:Int):=by omega
 have i2:(m:Int)<256:=by omega
 rw [hm];have HM:=Za hm;clear hm;go_enter Tryz.func154,Tryz.ntmps154
 go_wp2_with (go_at_call 150;refine (gf_Size8 g _ hc0).mono ?_;rintro e w9 ⟨rfl,m9,rfl⟩)
 go_region_with (first|(go_at_call 153;refine (gf_ready.calls g S _ (HF.out.drewN _) HS.out).mono ?_;rintro e w1 ⟨rfl,⟨a,b,k1,k2,k3⟩,k4,k5,k6⟩;have c5:w1.cell? ⟨g,5,none⟩=some (.slice (some ⟨a,0,none⟩) 256 256):=(aaz k1 5).trans rfl;have cm:=exp_cell k2 m hlt;have K4:=Za k4;have K5:=Za k5;have K6:=Za k6;clear k1 k2 k3 k4 k5 k6))
 all_goals
  go_wp2;go_ret;exact ⟨rfl,K4.out,⟨K5.out.os,K5.out.tape,K5.out.output,K5.out.size,K5.out.block⟩,fun h=>by have hB:=K6.out (by simpa using h);exact ⟨hB.os,hB.tape,hB.output,hB.size,hB.block⟩⟩
theorem C_nums {w:World} {g:Nat} {t:TypeId} {xs:List Int} (h:w.heap[g]?=some (.cells (nums .i64 xs).toArray t (0,0))) (hl:xs.length<=9223372036854775807):Kd.C (Kd.int .i64) w (some ⟨g,0,none⟩) xs.length xs:=by
 refine ⟨rfl,hl,fun _=>⟨_,rfl,fun j p hp=>⟨[.int .i64 p],rfl,rfl,fun i u hu=> ?_⟩⟩⟩;obtain ⟨hj,rfl⟩:=Zk hp
 cases i with
 |succ i=>simp at hu
 |zero=>
  obtain rfl:Value.int .i64 xs[j] =u:=by simpa using hu
  have e:(⟨g,0,none⟩:Addr).add (j*(Kd.int .i64).sz+0)=⟨g,j,none⟩:=by
   show (⟨g,0,none⟩:Addr).add (j*1+0)=_;unfold Addr.add;split<;>simp_all
  rw [e,aaz h j];simp [nums,hj]
theorem eIz (wb a b:Int):allIn wb [a,b] =(inF wb a&&inF wb b):=by simp [allIn,inF]
theorem allIn_one (wb a:Int):allIn wb [a] =inF wb a:=by simp [allIn,inF]
def fpoly (wb:Int):Int:=if wb=8 then 285 else 69643
theorem cOz.out (g : Nat) (S : Nat -> Prop) (wb p a b : Int) (W : World) (hw : wb = 8 \/ wb = 16) (hF : Fd W g wb p S) (h : (inF wb a && inF wb b) = false) :
  Calls Tryz.prog 103 #[.pointer (some ⟨g,0,none⟩), .int .i64 a, .int .i64 b] W fun e w'=>e= .returned (.int .i64 (gmul wb a b))/\Fd w' g wb p S/\BB W w' g:=by
 rw [gmul_out h];have HC:=Za (gf_in.calls g wb p S (some ⟨W.heap.size,0,none⟩) 2 [a,b] _ (hF.alloc (.cells #[.int .i64 a, .int .i64 b] 3)) hw (C_nums (t:=3) (heap_alloc_new _ _) (by simp)) (by simp));rw [eIz,h] at HC;have HF:=Za hF;clear hF h;go_enter Tryz.func103,Tryz.ntmps103
 go_wp2_with (first|(go_at_call 151;refine HC.out.mono ?_;rintro e w9 ⟨rfl,m9,rfl⟩))
 go_ret;exact ⟨rfl,(HF.out.alloc _).drewN _,((BB.refl _ _).alloc _).drewN _⟩
theorem cOz.zero (g : Nat) (S : Nat -> Prop) (wb p a b : Int) (W : World) (hw : wb = 8 \/ wb = 16) (hF : Fd W g wb p S) (h : (inF wb a && inF wb b) = true) (h0 : a = 0 \/ (a ≠ 0 /\ b = 0)) :
  Calls Tryz.prog 103 #[.pointer (some ⟨g,0,none⟩), .int .i64 a, .int .i64 b] W fun e w'=>e= .returned (.int .i64 (gmul wb a b))/\Fd w' g wb p S/\BB W w' g:=by
 have HC:=Za (gf_in.calls g wb p S (some ⟨W.heap.size,0,none⟩) 2 [a,b] _ (hF.alloc (.cells #[.int .i64 a, .int .i64 b] 3)) hw (C_nums (t:=3) (heap_alloc_new _ _) (by simp)) (by simp));rw [eIz,h] at HC;have HF:=Za hF;clear hF h;rcases h0 with rfl|⟨ha,rfl⟩
 ·rw [d2z];go_enter Tryz.func103,Tryz.ntmps103
  go_wp2_with (first|(go_at_call 151;refine HC.out.mono ?_;rintro e w9 ⟨rfl,m9,rfl⟩))
  go_ret;exact ⟨rfl,(HF.out.alloc _).drewN _,((BB.refl _ _).alloc _).drewN _⟩
 ·rw [eEz];have hb:(a==0)=false:=beq_eq_false_iff_ne.2 ha;clear ha;go_enter Tryz.func103,Tryz.ntmps103
  go_wp2_with (first|(go_at_call 151;refine HC.out.mono ?_;rintro e w9 ⟨rfl,m9,rfl⟩))
  go_ret;exact ⟨rfl,(HF.out.alloc _).drewN _,((BB.refl _ _).alloc _).drewN _⟩
theorem cOz.in16 (g : Nat) (S : Nat -> Prop) (a b : Int) (W : World) (hF : Fd W g 16 69643 S) (ha : 0 < a) (ha' : a < 65536) (hb : 0 < b) (hb' : b < 65536) :
  Calls Tryz.prog 103 #[.pointer (some ⟨g,0,none⟩), .int .i64 a, .int .i64 b] W fun e w'=>e= .returned (.int .i64 (gmul 16 a b))/\Fd w' g 16 69643 S/\BB W w' g:=by
 have hin:(inF 16 a&&inF 16 b)=true:=by simp [inF,fsize];omega
 have HC:=Za (gf_in.calls g 16 69643 S (some ⟨W.heap.size,0,none⟩) 2 [a,b] _ (hF.alloc (.cells #[.int .i64 a, .int .i64 b] 3)) (.inr rfl) (C_nums (t:=3) (heap_alloc_new _ _) (by simp)) (by simp));rw [eIz,hin] at HC;have hm:=poly_mulmod16 a.toNat b.toNat (by omega) (by omega);rw [Int.toNat_of_nonneg (by omega),Int.toNat_of_nonneg (by omega)] at hm;have hg:gmul 16 a b=((gm 15 69643 a.toNat b.toNat:Nat):Int):=by simp [gmul,hin,gmN]
 have hlt:gm 15 69643 a.toNat b.toNat<2^(15+1):=gf16.toGf.lt (by omega);rw [hg];generalize gm 15 69643 a.toNat b.toNat=q at hm hlt;have hlt':(q:Int)<65536:=by omega
 have HM:=Za hm;have HF:=Za (hF.alloc (.cells #[.int .i64 a, .int .i64 b] 3));have z1:(a==0)=false:=beq_eq_false_iff_ne.2 (by omega);have z2:(b==0)=false:=beq_eq_false_iff_ne.2 (by omega);have c0:=hF.bits;have c1:=hF.poly;have hl:=hF.lt;have c0':(W.alloc (.cells #[.int .i64 a, .int .i64 b] 3)).cell? ⟨g,0,none⟩=some (.int .i64 16):=(World.cell?_alloc_past _ _ _ hl).trans c0;have c1':(W.alloc (.cells #[.int .i64 a, .int .i64 b] 3)).cell? ⟨g,1,none⟩=some (.int .u32 69643):=(World.cell?_alloc_past _ _ _ hl).trans c1;clear hF hin hm hg hlt;go_enter Tryz.func103,Tryz.ntmps103
 go_wp2_with (first|(go_at_call 151;refine HC.out.mono ?_;rintro e w9 ⟨rfl,m9,rfl⟩)|(go_at_call 152;refine (bYz.calls 40 _ _ _ _ _ HM.out).mono ?_;rintro e w9 ⟨rfl,hB⟩))
 go_ret;exact ⟨rfl,(HF.out.drewN _).below hB,(((BB.refl _ _).alloc _).drewN _).trans (BB.of_below hB _)⟩
theorem cOz.in8 (g : Nat) (S : Nat -> Prop) (a b : Int) (W : World) (hF : Fd W g 8 285 S) (hS : ∀ k, S k -> k < W.heap.size) (ha : 0 < a) (ha' : a < 256) (hb : 0 < b) (hb' : b < 256) :
  Calls Tryz.prog 103 #[.pointer (some ⟨g,0,none⟩), .int .i64 a, .int .i64 b] W fun e w'=>e= .returned (.int .i64 (gmul 8 a b))/\Fd w' g 8 285 S/\BB W w' g:=by
 have hin:(inF 8 a&&inF 8 b)=true:=by simp [inF,fsize];omega
 have HC:=Za (gf_in.calls g 8 285 S (some ⟨W.heap.size,0,none⟩) 2 [a,b] _ (hF.alloc (.cells #[.int .i64 a, .int .i64 b] 3)) (.inl rfl) (C_nums (t:=3) (heap_alloc_new _ _) (by simp)) (by simp));rw [eIz,hin] at HC;obtain ⟨a,rfl⟩:=Int.eq_ofNat_of_zero_le (show 0<=a by omega);obtain ⟨b,rfl⟩:=Int.eq_ofNat_of_zero_le (show 0<=b by omega);obtain ⟨i,j,hi,hj,e1,e2,e3⟩:=tab_mul a b (by omega) (by omega) (by omega) (by omega);have hg:gmul 8 a b=((gm 7 285 a b:Nat):Int):=by simp [gmul,hin,gmN]
 rw [hg, <-e3];have HF:=Za (hF.alloc (.cells #[.int .i64 a, .int .i64 b] 3));have z1:((a:Int)==0)=false:=beq_eq_false_iff_ne.2 (by omega);have z2:((b:Int)==0)=false:=beq_eq_false_iff_ne.2 (by omega);have c0:=hF.bits;have hl:=hF.lt;have c0':(W.alloc (.cells #[.int .i64 a, .int .i64 b] 3)).cell? ⟨g,0,none⟩=some (.int .i64 8):=(World.cell?_alloc_past _ _ _ hl).trans c0;have HS:=Za (show∀k,S k->k<(W.alloc (.cells #[.int .i64 a, .int .i64 b] 3)).heap.size from fun k hk=>by have:=hS k hk;simp;omega);have i1:(0:Int)<=(a:Int):=by omega
 have i2:(0:Int)<=(b:Int):=by omega
 have E1:=Za e1;have E2:=Za e2;have hsum:IntKind.i64.wrap ((i:Int)+(j:Int))=((i+j:Nat):Int):=by rw [IntKind.wrap_i64];omega
 clear hF hin hg hS e1 e2 e3;go_enter Tryz.func103,Tryz.ntmps103
 go_wp2_with (first|(go_at_call 151;refine HC.out.mono ?_;rintro e w9 ⟨rfl,m9,rfl⟩)|(go_at_call 153;refine (gf_ready.calls g S _ (HF.out.drewN _) HS.out).mono ?_;rintro e w1 ⟨rfl,⟨ta,tb,k1,k2,k3⟩,k4,k5, -⟩))
 have c6:w1.cell? ⟨g,6,none⟩=some (.slice (some ⟨tb,0,none⟩) 256 256):=(aaz k1 6).trans rfl;have l1:w1.cell? ⟨tb,a,none⟩=some (.int .i64 (i:Int)):=by rw [log_cell k3 a (by omega),E1.out]
 have l2:w1.cell? ⟨tb,b,none⟩=some (.int .i64 (j:Int)):=by rw [log_cell k3 b (by omega),E2.out]
 have C2:=Za (show w1.cell? ⟨g,2,none⟩=some (.int .u32 1) from (aaz k1 2).trans rfl);have K4:=Za k4;have K5:=Za k5;clear k1 k2 k3 k4 k5 c0 c0'
 go_region_held3 (fun W'=>W'.cell? ⟨g,6,none⟩=some (.slice (some ⟨tb,0,none⟩) 256 256)/\W'.cell? ⟨tb,a,none⟩=some (.int .i64 (i:Int))/\W'.cell? ⟨tb,b,none⟩=some (.int .i64 (j:Int))) (first|exact ⟨c6,l1,l2⟩|exact ⟨aUz q6 c6,aUz q6 l1,aUz q6 l2⟩) (first|(go_at_call 154;refine (gf_Exp.calls g S (i+j) _ (by omega) (K4.out.drewN 1) (fun k hk=>Zp (HS.out k hk) K5.out.size)).mono ?_;rintro e w3 ⟨rfl,q4,q5,q6'⟩;have q6:=q6' C2.out;clear q6'))
 have Q4:=Za q4;have Q5:=Za (((BB.refl W g).alloc (.cells #[.int .i64 a, .int .i64 b] 3)).drewN m9|>.trans K5.out|>.trans (show BB w1 w3 g from ⟨q5.os,q5.tape,q5.output,q5.size,q5.block⟩));clear q4 q5 q6 c6 l1 l2;go_wp2;go_ret;exact ⟨rfl,Q4.out,Q5.out⟩
theorem cOz.calls (g : Nat) (S : Nat -> Prop) (wb a b : Int) (W : World) (hw : wb = 8 \/ wb = 16) (hF : Fd W g wb (fpoly wb) S) (hS : ∀ k, S k -> k < W.heap.size) :
  Calls Tryz.prog 103 #[.pointer (some ⟨g,0,none⟩), .int .i64 a, .int .i64 b] W fun e w'=>e= .returned (.int .i64 (gmul wb a b))/\Fd w' g wb (fpoly wb) S/\BB W w' g:=by
 by_cases h:(inF wb a&&inF wb b)=true
 ·by_cases ha:a=0
  ·exact cOz.zero g S wb _ a b W hw hF h (.inl ha)
  ·by_cases hb:b=0
   ·exact cOz.zero g S wb _ a b W hw hF h (.inr ⟨ha,hb⟩)
   ·simp only [Bool.and_eq_true,inF,decide_eq_true_eq] at h;rcases hw with rfl|rfl
    ·exact cOz.in8 g S a b W hF hS (by omega) h.1.2 (by omega) h.2.2
    ·exact cOz.in16 g S a b W hF (by omega) h.1.2 (by omega) h.2.2
 ·exact cOz.out g S wb _ a b W hw hF (by simpa using h)
def bmz.f (a0:Int):Option (ByteArray×Int×Int×Int×Int×Bool):=
 if a0=1 then some (⟨#[106,118]⟩,8,285,106,4,true) else if a0=2 then some (⟨#[106,99]⟩,16,69643,106,4,true)
 else if a0=3 then some (⟨#[105,114]⟩,8,285,105,3,true) else if a0=4 then some (⟨#[105,99]⟩,8,285,105,4,true)
 else if a0=5 then some (⟨#[98,98]⟩,8,285,98,4,true) else if a0=6 then some (⟨#[107,112]⟩,8,285,112,4,true)
 else some (⟨#[]⟩,0,0,0,0,false)
theorem bmz.low (a0 : Int) (w : World) (h : a0 < 1) :
  Calls Tryz.prog 75 #[.int .i64 a0] w fun e w'=>e= .returned (.tuple #[.agg #[.string ⟨#[]⟩, .int .i64 0, .int .u32 0, .int .u8 0, .int .i64 0], .bool false])/\Below w.heap.size w w':=by
 go_enter Tryz.func75,Tryz.ntmps75;go_wp2;exact bodyPost_ret (v:= .tuple #[.agg #[.string ⟨#[]⟩, .int .i64 0, .int .u32 0, .int .u8 0, .int .i64 0], .bool false]) (by simp [results,Tryz.results75,go_sem]) rfl ⟨rfl,(Zw _ _).alloc (Zv _) _⟩
theorem bmz.high (a0 : Int) (w : World) (h : 6 < a0) :
  Calls Tryz.prog 75 #[.int .i64 a0] w fun e w'=>e= .returned (.tuple #[.agg #[.string ⟨#[]⟩, .int .i64 0, .int .u32 0, .int .u8 0, .int .i64 0], .bool false])/\Below w.heap.size w w':=by
 have h1: ¬a0<1:=by omega
 go_enter Tryz.func75,Tryz.ntmps75;go_wp2;exact bodyPost_ret (v:= .tuple #[.agg #[.string ⟨#[]⟩, .int .i64 0, .int .u32 0, .int .u8 0, .int .i64 0], .bool false]) (by simp [results,Tryz.results75,go_sem]) rfl ⟨rfl,(Zw _ _).alloc (Zv _) _⟩
def dEz.v:Value:= .agg #[.string ⟨#[106,118]⟩, .int .i64 8, .int .u32 285, .int .u8 106, .int .i64 4, .string ⟨#[106,99]⟩, .int .i64 16, .int .u32 69643, .int .u8 106, .int .i64 4, .string ⟨#[105,114]⟩, .int .i64 8, .int .u32 285, .int .u8 105, .int .i64 3, .string ⟨#[105,99]⟩, .int .i64 8, .int .u32 285, .int .u8 105, .int .i64 4, .string ⟨#[98,98]⟩, .int .i64 8, .int .u32 285, .int .u8 98, .int .i64 4, .string ⟨#[107,112]⟩, .int .i64 8, .int .u32 285, .int .u8 112, .int .i64 4]
theorem dEz.any (w : World) :
  Calls Tryz.prog 111 #[] w fun e w'=>e= .returned dEz.v/\Below w.heap.size w w':=by
 go_enter Tryz.func111,Tryz.ntmps111
 go_wp2_with ((with_reducible refine c9z rfl ?_);refine wpList_store_row rfl 143 _ _ rfl w.heap.size _ rfl rfl 143 _ (heap_alloc_new _ _) kr_ rfl kr_ ?_)
 exact bodyPost_ret (results_cell_row Tryz.results111 _ _ w.heap.size _ _ (0,0) _ rfl (setRow_heap _ _ _ _ _ _ (heap_alloc_new _ _)) Tryz.underlying143 rfl kr_) rfl ⟨rfl,below_setRow ((Zw _ _).alloc (Zv _) _) (Zv _) _⟩
theorem bmz.at_ (a0 : Int) (s : ByteArray) (x2 x3 x4 x5 : Int) (h0 : ¬ a0 < 1) (h6 : ¬ 6 < a0) (hi : ∀ w, (Instr.index 143 dEz.v (.int .i64 (a0 - 1))).run Tryz.prog w = .ok (.agg #[.string s, .int .i64 x2, .int .u32 x3, .int .u8 x4, .int .i64 x5]) w) (w : World) :
  Calls Tryz.prog 75 #[.int .i64 a0] w fun e w'=>e= .returned (.tuple #[.agg #[.string s, .int .i64 x2, .int .u32 x3, .int .u8 x4, .int .i64 x5], .bool true])/\Below w.heap.size w w':=by
 go_enter Tryz.func75,Tryz.ntmps75
 go_wp2_with fail
 refine (dEz.any _).mono ?_;rintro e w1 ⟨rfl,hb⟩;have hh:w1.heap[w.heap.size]?=some (.cells #[.string ⟨#[]⟩, .int .i64 0, .int .u32 0, .int .u8 0, .int .i64 0] 109 (0,0)):=(hb.block _ (by simp)).trans (heap_alloc_new _ _)
 go_wp2_with ((with_reducible refine c9z rfl ?_);(refine wpList_store_row rfl 109 _ _ rfl w.heap.size _ rfl rfl 109 _ hh kr_ rfl kr_ ?_))
 refine bodyPost_ret (v:= .tuple #[.agg #[.string s, .int .i64 x2, .int .u32 x3, .int .u8 x4, .int .i64 x5], .bool true]) ?_ rfl ⟨rfl,below_setRow (((Zw _ _).alloc (Zv _) _).trans (hb.mono (by simp))) (Zv _) _⟩;rw [results_cell_tmp Tryz.results75];simp only [Array.getD_eq_getD_getElem?,List.getElem?_toArray,List.getElem?_cons_succ,List.getElem?_cons_zero,Option.getD_some,asAddr,Sem.run_pure,Result.andThen_ok];rw [run_loadVar_row _ w.heap.size 109 109 _ (0,0) _ (setRow_heap _ _ _ _ _ _ hh) Tryz.underlying109 rfl kr_];rfl
theorem bmz.calls (a0 : Int) (r1 : ByteArray) (r2 : Int) (r3 : Int) (r4 : Int) (r5 : Int) (r6 : Bool) (w : World) (h : bmz.f a0 = some (r1, r2, r3, r4, r5, r6)) :
  Calls Tryz.prog 75 #[.int .i64 a0] w fun e w'=>e= .returned (.tuple #[.agg #[.string r1, .int .i64 r2, .int .u32 r3, .int .u8 r4, .int .i64 r5], .bool r6])/\Below w.heap.size w w':=by
 unfold bmz.f at h;by_cases h1:a0=1
 ·subst h1;simp at h;obtain ⟨rfl,rfl,rfl,rfl,rfl,rfl⟩:=h;exact bmz.at_ 1 _ _ _ _ _ (by decide) (by decide) (fun _=>by kernel_rfl) w
 rw [Yb h1] at h;by_cases h2:a0=2
 ·subst h2;simp at h;obtain ⟨rfl,rfl,rfl,rfl,rfl,rfl⟩:=h;exact bmz.at_ 2 _ _ _ _ _ (by decide) (by decide) (fun _=>by kernel_rfl) w
 rw [Yb h2] at h;by_cases h3:a0=3
 ·subst h3;simp at h;obtain ⟨rfl,rfl,rfl,rfl,rfl,rfl⟩:=h;exact bmz.at_ 3 _ _ _ _ _ (by decide) (by decide) (fun _=>by kernel_rfl) w
 rw [Yb h3] at h;by_cases h4:a0=4
 ·subst h4;simp at h;obtain ⟨rfl,rfl,rfl,rfl,rfl,rfl⟩:=h;exact bmz.at_ 4 _ _ _ _ _ (by decide) (by decide) (fun _=>by kernel_rfl) w
 rw [Yb h4] at h;by_cases h5:a0=5
 ·subst h5;simp at h;obtain ⟨rfl,rfl,rfl,rfl,rfl,rfl⟩:=h;exact bmz.at_ 5 _ _ _ _ _ (by decide) (by decide) (fun _=>by kernel_rfl) w
 rw [Yb h5] at h;by_cases h6:a0=6
 ·subst h6;simp at h;obtain ⟨rfl,rfl,rfl,rfl,rfl,rfl⟩:=h;exact bmz.at_ 6 _ _ _ _ _ (by decide) (by decide) (fun _=>by kernel_rfl) w
 rw [Yb h6] at h;simp at h;obtain ⟨rfl,rfl,rfl,rfl,rfl,rfl⟩:=h;by_cases h0:a0<1
 ·exact bmz.low a0 w h0
 ·exact bmz.high a0 w (by omega)
theorem prim8:boz.f 400 285=some true:=by kernel_rfl
theorem prim16:boz.f 1500 69643=some true:=by kernel_rfl
theorem deg8:cgz.f 285=some 8:=by kernel_rfl
theorem deg16:cgz.f 69643=some 16:=by kernel_rfl
def Fresh (w:World) (g:Nat) (wb:Int):Prop:=w.heap[g]?=some (.cells (freshF wb (fpoly wb)) 172 (0,0))
theorem Fresh.fd {w:World} {g:Nat} {wb:Int} (h:Fresh w g wb) (S:Nat->Prop) (hg: ¬S g):Fd w g wb (fpoly wb) S:=⟨hg, .inl h⟩
theorem gf_New.calls (wb : Int) (hw : wb = 8 \/ wb = 16) (W : World) :
  Calls Tryz.prog 81 #[.int .i64 wb, .int .u32 (fpoly wb)] W fun e w'=> ∃g:Nat,e= .returned (.pointer (some ⟨g,0,none⟩))/\Fresh w' g wb/\W.heap.size<=g/\Below W.heap.size W w':=by
 rcases hw with rfl|rfl
 ·have HP:=Za prim8;have HD:=Za deg8;show Calls Tryz.prog 81 #[.int .i64 8, .int .u32 285] W _;go_enter Tryz.func81,Tryz.ntmps81
  go_wp2_with (first|(go_at_call 124;refine (cgz.calls _ _ _ HD.out).mono ?_;rintro e w9 ⟨rfl,m9,rfl⟩)|(go_at_call 125;refine (boz.calls 400 _ _ _ HP.out).mono ?_;rintro e w9 ⟨rfl,hB⟩))
  go_ret;exact ⟨_,rfl,heap_alloc_new _ _,hB.size,alz (w:=W) ⟨hB.os,hB.tape,hB.output,hB.size,hB.block⟩ _⟩
 ·have HP:=Za prim16;have HD:=Za deg16;show Calls Tryz.prog 81 #[.int .i64 16, .int .u32 69643] W _;go_enter Tryz.func81,Tryz.ntmps81
  go_wp2_with (first|(go_at_call 124;refine (cgz.calls _ _ _ HD.out).mono ?_;rintro e w9 ⟨rfl,m9,rfl⟩)|(go_at_call 125;refine (boz.calls 1500 _ _ _ HP.out).mono ?_;rintro e w9 ⟨rfl,hB⟩))
  go_ret;exact ⟨_,rfl,heap_alloc_new _ _,hB.size,alz (w:=W) ⟨hB.os,hB.tape,hB.output,hB.size,hB.block⟩ _⟩
def pbits (p:Int):Int:=if p=2 then 16 else 8
theorem djz (p:Int):pbits p=8\/pbits p=16:=by unfold pbits;split<;>simp
theorem profile_told {p:Int} (h:1<=p/\p<=6): ∃s l m,bmz.f p=some (s,pbits p,fpoly (pbits p),l,m,true):=by
 obtain ⟨h1,h2⟩:=h;have:p=1\/p=2\/p=3\/p=4\/p=5\/p=6:=by omega
 rcases this with rfl|rfl|rfl|rfl|rfl|rfl<;>exact ⟨_,_,_,rfl⟩
theorem dkz.calls (p : Int) (h : 1 <= p /\ p <= 6) (W : World) :
  Calls Tryz.prog 45 #[.int .i64 p] W fun e w'=> ∃g:Nat,e= .returned (.pointer (some ⟨g,0,none⟩))/\Fresh w' g (pbits p)/\W.heap.size<=g/\Below W.heap.size W w':=by
 obtain ⟨s,l,m,h0⟩:=profile_told h;have H0:=Za h0;have HN:=Za (gf_New.calls (pbits p) (djz p));generalize pbits p=wb at H0 HN|-;generalize fpoly wb=q at H0 HN;clear h h0;go_enter Tryz.func45,Tryz.ntmps45
 go_wp2_with (first|(go_at_call 75;refine (bmz.calls p _ _ _ _ _ _ _ H0.out).mono ?_;rintro e w9 ⟨rfl,hB⟩)|(go_at_call 81;refine (HN.out _).mono ?_;rintro e w8 ⟨g,rfl,q1,q2,q3⟩))
 go_ret;have e1:=hB.size;exact ⟨g,rfl,q1,by simp at q2;omega,(alz hB _).trans (q3.mono (by simp;omega))⟩
def dotF (wb:Int):List Int->List Int->Int->Int
 |x::a,y::b,s=>dotF wb a b (Go.bits .xor .i64 s (gmul wb x y))
 |_,_,s=>s
theorem dotF_drop (wb:Int) (a b:List Int) (s:Int) (k:Nat) (x y:Int) (hx:a[k]?=some x) (hy:b[k]?=some y):dotF wb (a.drop k) (b.drop k) s=dotF wb (a.drop (k+1)) (b.drop (k+1)) (Go.bits .xor .i64 s (gmul wb x y)):=by
 obtain ⟨h1,rfl⟩:=Zk hx;obtain ⟨h2,rfl⟩:=Zk hy;rw [List.drop_eq_getElem_cons h1,List.drop_eq_getElem_cons h2,dotF]
theorem dotF_end (wb:Int) (a b:List Int) (s:Int):dotF wb (a.drop a.length) b s=s:=by
 rw [List.drop_length];cases b<;>rfl
abbrev NotG (g:Nat):Nat->Prop:=fun k=>k≠g
theorem F_bb {α:Type} {d:Kd α} {W W1:World} {g:Nat} {A:Option Addr} {n:Nat} {xs:List α} (h:Kd.F d W (NotG g) A n xs) (hb:BB W W1 g):Kd.F d W1 (NotG g) A n xs:=Kd.F_keep h hb.keep (fun _ hk=>hk)
theorem matrix_dot.calls (g : Nat) (S : Nat -> Prop) (wb : Int) (A B : Option Addr) (ca cb : Nat) (a b : List Int) (W : World) (hw : wb = 8 \/ wb = 16) (hF : Fd W g wb (fpoly wb) S) (hS : ∀ k, S k -> k < W.heap.size) (hla : a.length <= 1000) (hlb : a.length <= b.length)
  (ha:Kd.F (Kd.int .i64) W (NotG g) A a.length a) (hb:Kd.F (Kd.int .i64) W (NotG g) B b.length b):
  Calls Tryz.prog 185 #[.pointer (some ⟨g,0,none⟩), .slice A a.length ca, .slice B b.length cb] W fun e w'=>e= .returned (.int .i64 (dotF wb a b 0))/\Fd w' g wb (fpoly wb) S/\BB W w' g:=by
 have HF:=Za hF;have HS:=Za hS;have HW:=Za hw;have HA:=Za ha;have HB:=Za hb;obtain ⟨R,hR⟩: ∃R,dotF wb a b 0=R:=⟨_,rfl⟩;rw [hR];have HR:=Za (show dotF wb (a.drop 0) (b.drop 0) 0=R from hR);clear hF hS hw ha hb hR;go_enter Tryz.func185,Tryz.ntmps185;go_wp2
 go_loopw [7,12] (fun s i wr=> ∃(k:Nat) (z:Int),k<=a.length/\s= .int .i64 z/\i= .int .i64 k/\Aside0 (dotF wb (a.drop k) (b.drop k) z=R)/\Aside0 (Fd wr g wb (fpoly wb) S)/\Aside0 (BB W wr g)) (fun _ i _=>a.length - (intOf i).toNat)
 case atStart=>exact ⟨0,0,Nat.zero_le _,rfl,rfl,HR,HF,⟨BB.refl _ _⟩⟩
 clear HR HF;obtain ⟨k,z,hk,rfl,rfl,HR,HF,HBB⟩:=hrel;by_cases hlt:k<a.length
 ·obtain ⟨x,hx⟩: ∃x,a[k]?=some x:=⟨_,Zf hlt⟩;obtain ⟨y,hy⟩: ∃y,b[k]?=some y:=⟨_,Zf (by omega)⟩;obtain ⟨ad,rfl,hc1⟩:=cHz (Kd.F_now (F_bb HA.out HBB.out)) k x hx;obtain ⟨bd,rfl,hc2⟩:=cHz (Kd.F_now (F_bb HB.out HBB.out)) k y hy;have HR1:=Za ((dotF_drop wb a b z k x y hx hy).symm.trans HR.out);have hltb:k<b.length:=by omega
  clear hx hy
  go_wp2_with (first|(go_at_call 103;refine (cOz.calls g S wb x y _ HW.out HF.out (fun k hk=>Zp (HS.out k hk) HBB.out.size)).mono ?_;rintro e w3 ⟨rfl,q1,q2⟩))
  go_roundw
  case rel=>exact ⟨k+1,_,by omega,rfl,by go_num,HR1,⟨q1⟩,⟨HBB.out.trans q2⟩⟩
  case measure=>simp [intOf];omega
 ·obtain rfl:k=a.length:=by omega
  have HE:=Za ((dotF_end wb a (b.drop a.length) z).symm.trans HR.out);go_wp2;go_ret;refine ⟨?_,HF.out,HBB.out⟩;rw [<-HE.out];rfl
theorem append_int_run {W : World} {base : Nat} {v : Value} {xs : List Int} (z : Int) (HO : (Kd.int .i64).R 3 W base (fun _ => True) v xs) (hb : base <= W.heap.size) (hl : xs.length <= 1000) :
  ∃v1 w1,(Builtin.append_ #[57,57] 57 #[v, .slice (some ⟨W.heap.size,0,none⟩) 1 1]).run Tryz.prog (W.alloc (.cells #[.int .i64 z] 3))= .ok v1 w1/\(Kd.int .i64).R 3 w1 base (fun _=>True) v1 (xs++ [z])/\W.grownBy w1 v.ownBlock/\(v1.ownBlock=v.ownBlock\/ ∃b,v1.ownBlock=some b/\W.heap.size<=b):=by
 obtain ⟨h0,inner,hown,hr⟩:=HO;obtain ⟨i0,hi,hz0,hz1,hz2⟩:=info_parts info3;have hcell:(W.alloc (.cells #[.int .i64 z] 3)).heap[W.heap.size]?=some (.cells #[.int .i64 z] 3 (0,0)):=heap_alloc_new _ _
 obtain ⟨v1,w1,hrun,h1,h2, -,h4⟩:=run_append_own_at (P:=Tryz.prog) (w:=W.alloc (.cells #[.int .i64 z] 3)) base 57 57 3 i0 (.int .i64 0) 1 8 Tryz.underlying57 hi hz0 hz1 hz2 rfl (by decide) v xs.length inner (fcz hown (alz (Zw _ _) _)) ⟨W.heap.size,0,none⟩ 1 1 [.int .i64 z] rfl
  (fun j u hu=>by
   cases j with
   |succ j=>simp at hu
   |zero=>
    obtain rfl:Value.int .i64 z=u:=by simpa using hu
    exact (aaz hcell 0).trans rfl) (by simp [Value.oneCell']) (by unfold maxLen;omega) (by omega) (by simp;omega)
 have hgW:W.grownBy w1 v.ownBlock:=(World.grownBy_alloc W _ _).trans h2
 have hat:v1.ownBlock=v.ownBlock\/ ∃b,v1.ownBlock=some b/\W.heap.size<=b:=by
  rcases h4 with h4|h4
  ·exact .inl h4
  ·exact .inr ⟨_,h4,by simp⟩
 exact ⟨v1,w1,hrun,Kd.eVz h0 hr (okp:=fun _=>False) (show (Kd.int .i64).M W base (fun _=>False) z [.int .i64 z] from rfl) (fun _ h=>h.elim) (fun _ _=>trivial) h1 hgW hat,hgW,hat⟩
theorem e0z {X Y:World} {row:Option Nat} {base:Nat} {ok:Nat->Prop} {v:Value} {xs:List Int} {e:Nat} (h:(Kd.int .i64).R e X base ok v xs) (hg:X.grownBy Y row) (hr: ∀r,row=some r-> ∃o:Obj,X.heap[r]?=some o/\o.isCells=false):(Kd.int .i64).R e Y base ok v xs:=by
 refine Kd.aJz (Kd.cyz (Kd.bTz h) (fun k hk=> ?_)) (fun k hk=>hk.1);obtain ⟨-, -,hlt,q, -,cells,hc⟩:=hk;exact grownBy_keeps_cells hg hr hc rfl
theorem Fd_noncells {X Y:World} {row:Option Nat} {g:Nat} {wb p:Int} {S:Nat->Prop} (h:Fd X g wb p S) (hg:X.grownBy Y row) (hr: ∀r,row=some r-> ∃o:Obj,X.heap[r]?=some o/\o.isCells=false):Fd Y g wb p S:=by
 obtain ⟨h1,h2|⟨h8,hp,a,b,h3,ha,hb,na,nb⟩⟩:=h
 ·exact ⟨h1, .inl ((grownBy_keeps_cells hg hr h2 rfl).trans h2)⟩
 ·exact ⟨h1, .inr ⟨h8,hp,a,b,(grownBy_keeps_cells hg hr h3 rfl).trans h3,(grownBy_keeps_cells hg hr ha rfl).trans ha,(grownBy_keeps_cells hg hr hb rfl).trans hb,na,nb⟩⟩
theorem row_atF {α : Type} {d : Kd α} {e : Nat} {W : World} {ok : Nat -> Prop} {ad : Addr} {rows : List (List α)} (h : Kd.F (Kd.slice e d) W ok (some ad) rows.length rows) (k : Nat) (x : List α) (hx : rows[k]? = some x) :
  ∃A' c',W.cell? (ad.add k)=some (.slice A' x.length c')/\x.length<=c'/\Kd.F d W ok A' x.length x:=by
 have hlt:=(Zk hx).1;obtain ⟨ad',c,hA,hl,hK,hc, -⟩:=Kd.F_get h ([] :List α) (k:Int) (by omega) (by omega);obtain rfl:ad=ad':=Zn hA;rw [Zu,Zm,hx] at hK;obtain ⟨A',c',rfl,hle,hF⟩:=Kd.bUz hK;refine ⟨A',c',?_,hle,hF⟩;have:=hc 0 _ rfl
 simpa [Kd.slice] using this
theorem cAz {P : Program} {fn : Func} {tmps : Array Value} {R : Ending -> World -> Prop} {n : Nat} : ∀ (Ds : List Nat) (w : World), Ds.Nodup -> (∀ D, D ∈ Ds -> w.heap[D]? = some (.deferred (some []))) ->
  (∀w',(∀k,k<w.heap.size->k∉Ds->w'.heap[k]?=w.heap[k]?)->w'.heap.size=w.heap.size->w'.os=w.os->w'.tape=w.tape->w'.output=w.output->LeavesInM Fence.wide n P fn tmps R [] .returning w')->
  LeavesInM Fence.wide n P fn tmps R (Ds.map fun D=> { target:= .collected D,args:= #[] }) .returning w
 | [],w,_,_,h=>h w (fun _ _ _=>rfl) rfl rfl rfl rfl
 |D::Ds,w,hn,hd,h=>by
  have h1:=hd D (List.mem_cons_self ..);have hlt:=(Array.getElem?_eq_some_iff.1 h1).1;refine ⟨by simp, .inl ⟨D,_,rfl,run_takeDeferred h1,?_⟩⟩;have hn':=List.nodup_cons.1 hn;refine cAz Ds _ hn'.2 (fun D' hD'=>(World.putObj_heap_other (fun e=>hn'.1 (by rw [<-e];exact hD'))).trans (hd D' (List.mem_cons_of_mem _ hD'))) (fun w' hk hs h3 h4 h5=> ?_);have hsz:(w.putObj D (.deferred none)).heap.size=w.heap.size:=by simp [World.putObj]
  exact h w' (fun k hk1 hk2=>(hk k (by rw [hsz];exact hk1) (fun e=>hk2 (List.mem_cons_of_mem _ e))).trans (World.putObj_heap_other (fun e=>hk2 (by simp [e])))) (hs.trans hsz) (h3.trans rfl) (h4.trans rfl) (h5.trans rfl)
theorem Fd.cells {W:World} {g:Nat} {wb p:Int} {S:Nat->Prop} (h:Fd W g wb p S): ∃cs,W.heap[g]?=some (.cells cs 172 (0,0)):=by
 obtain ⟨-,h|⟨-, -,a,b,h, -⟩⟩:=h
 ·exact ⟨_,h⟩
 ·exact ⟨_,h⟩
theorem Fd.grow {X Y:World} {g:Nat} {wb p:Int} {S:Nat->Prop} {row:Option Nat} (h:Fd X g wb p S) (hr: ∀k,row=some k->S k) (hg:X.grownBy Y row):Fd Y g wb p (fun k=>S k\/X.heap.size<=k):=
 h.more.move (fun k hk hlt=>hg.block k hlt (fun e=>hk (.inl (hr k e.symm))))
theorem F_block {W:World} {g c t:Nat} {cs:Array Value} {xs:List Int} (hg:W.heap[g]?=some (.cells cs t (0,0))) (ht:3≠t) (hc:W.heap[c]?=some (.cells (nums .i64 xs).toArray 3 (0,0))) (hl:xs.length<=1000):Kd.F (Kd.int .i64) W (NotG g) (some ⟨c,0,none⟩) xs.length xs:=by
 have hne:c≠g:=by
  rintro rfl;rw [hc] at hg;injection hg with hg
  injection hg with _ hg
  exact ht hg
 intro W' hW;have hc':=(hW c hne (aPz hc)).trans hc;refine ⟨rfl,by omega,fun _=>⟨_,rfl,fun j x hx=>⟨[.int .i64 x],rfl,rfl,fun i' u hu=> ?_⟩⟩⟩
 cases i' with
 |succ i'=>simp at hu
 |zero=>
  obtain rfl:Value.int .i64 x=u:=by simpa using hu
  have e:(⟨c,0,none⟩:Addr).add (j*(Kd.int .i64).sz+0)=⟨c,j,none⟩:=by
   show (⟨c,0,none⟩:Addr).add (j*1+0)=_;unfold Addr.add;split<;>simp_all
  rw [e,aaz hc' _];simp [nums,hx]
theorem Fd_keepC {X Y:World} {g:Nat} {wb p:Int} {S:Nat->Prop} (h:Fd X g wb p S) (hm: ∀(k:Nat) (o:Obj),X.heap[k]?=some o->o.isCells=true->Y.heap[k]?=X.heap[k]?):Fd Y g wb p S:=by
 obtain ⟨h1,h2|⟨h8,hp,a,b,h3,ha,hb,na,nb⟩⟩:=h
 ·exact ⟨h1, .inl ((hm _ _ h2 rfl).trans h2)⟩
 ·exact ⟨h1, .inr ⟨h8,hp,a,b,(hm _ _ h3 rfl).trans h3,(hm _ _ ha rfl).trans ha,(hm _ _ hb rfl).trans hb,na,nb⟩⟩
theorem S_keepC {X Y:World} {base:Nat} {ok:Nat->Prop} {v:Value} {xs:List (List Int)} {e t:Nat} (h:Kd.S (dM e .i64) t X base ok v xs) (hm: ∀(k:Nat) (o:Obj),X.heap[k]?=some o->o.isCells=true->Y.heap[k]?=X.heap[k]?):Kd.S (dM e .i64) t Y base ok v xs:=by
 refine Kd.cGz (Kd.ebz (Kd.bFz h) (fun k hk=> ?_)) (fun k hk=>hk.1);obtain ⟨-, -,hlt,q, -,cells,hc⟩:=hk;exact hm _ _ hc rfl
def btz.f (a0:Int):Option (Bool):=if a0>=1 then (some (decide (a0<=20))) else (some false)
theorem btz.calls (a0 : Int) (r : Bool) (w : World) (h : btz.f a0 = some r) :
  Calls Tryz.prog 116 #[.int .i64 a0] w fun e w'=>e= .returned (.bool r)/\Drawn0 w w':=by
 have H:=h;clear h;unfold btz.f at H;by_cases c2:a0>=1
 ·rw [Ya c2] at H;have c2b0:decide (1<=a0)=true:=Zd c2;clear c2;obtain rfl:=Zn H;go_enter Tryz.func116,Tryz.ntmps116;go_wp2;go_ret;exact ⟨sd_,dn_⟩
 ·rw [Yb c2] at H;have c2b0:decide (1<=a0)=false:=Ze c2;clear c2;obtain rfl:=Zn H;go_enter Tryz.func116,Tryz.ntmps116;go_wp2;go_ret;exact ⟨sd_,dn_⟩
def cBz.l0:Nat->Int->List Int->Int->Int->Option (List Int)
 |0,_,_,_,_=>none
 |k+1,x0,x5,x10,x11=>if x11<x10 then (if 0<=x11 then (if x11<(x5.length:Int) then (cBz.l0 k x0 (x5.set (x11:Int).toNat (wrap64 (x0+x11))) x10 (wrap64 (x11+1))) else (none)) else (none)) else (some x5)
def cBz.f (k:Nat) (a0:Int) (a1:Int):Option (List Int):=if 0<=a1 then (if (a1:Int).toNat<=35184372088832 then ((some (List.replicate (a1:Int).toNat 0:List Int)).bind fun y654=>(cBz.l0 k a0 y654 (y654.length:Int) 0)) else (none)) else (none)
theorem cBz.calls (k : Nat) (a0 : Int) (a1 : Int) (r : List Int) (w : World) (h : cBz.f k a0 a1 = some r) :
  Calls Tryz.prog 118 #[.int .i64 a0, .int .i64 a1] w fun e w'=> ∃v0_:Value,e= .returned (v0_)/\Kd.R (Kd.int .i64) 3 w' w.heap.size (fun _=>True) v0_ r/\Below w.heap.size w w':=by
 have HB:=Za (Zw w.heap.size w);have H:=h;clear h;unfold cBz.f at H;by_cases c3:0<=a1
 rotate_left
 ·rw [Yb c3] at H;exact Yf H (by simp)
 rw [Ya c3] at H;have c3b0:=Zz c3;have c3b1:=Zd c3;clear c3;by_cases c4:(a1:Int).toNat<=35184372088832
 rotate_left
 ·rw [Yb c4] at H;exact Yf H (by simp)
 rw [Ya c4] at H;have c4b0:=Zz c4;have c4b1:=Zd c4;clear c4;obtain ⟨y654,hy654⟩: ∃y_:List Int,y_=(List.replicate (a1:Int).toNat 0):=⟨_,rfl⟩
 first|rw [Zl, <-hy654] at H|rw [<-hy654] at H
 (try dsimp only at H)
 have Ny654:=Za hy654;clear hy654;have H':=Za H;clear H;go_enter Tryz.func118,Tryz.ntmps118
 go_wp2_with (first|((with_reducible refine blz (N:=8) rfl ?_);refine Kd.R_make (Kd.int .i64) _ 3 rfl (N:=8) rfl 57 _ _ rfl a1 rfl rfl Tryz.underlying57 (.int .i64 0) 8 info3 rfl (by decide) (by omega) 0 (ok:=fun _=>True) (okp:=fun _=>True) rfl (fun _ hk=>hk) trivial (Zc as_) (Zt (Nat.mul_le_mul_right _ (Zc as_:a1.toNat<=35184372088832)) (by omega)) (Zw _ _) (Zv _) ?_;intro v655 w5 ho6 hb hg_ hnew_;clear hg_ hnew_;(first|rw [<-Ny654.out] at ho6|(simp only [Int.reduceToNat] at ho6;rw [<-Ny654.out] at ho6));have n_:=Zb (Za (Kd.bDz ho6 (aez bl_))) (hs_ HB hb);clear HB;obtain ⟨HO656,HB⟩:=n_;clear hb ho6;obtain ⟨Ao7,co7,eo7⟩:=Kd.aRz HO656.out;subst eo7))
 go_loopg [11] k (fun kq v11 w'=> ∃(x5_1:List Int) (x11_1:Int),v11= .int .i64 x11_1/\Aside0 (cBz.l0 kq a0 x5_1 (y654.length:Int) x11_1=some r)/\Aside0 (kq<=k)/\Aside0 (Kd.R (Kd.int .i64) 3 w' w.heap.size (fun _=>True) (.slice Ao7 y654.length co7) x5_1)/\Aside0 (Below w.heap.size w w'))
 case atStart=>exact ⟨(y654),(0),sd_,H',⟨Zv _⟩,⟨xd_ HO656.out⟩,⟨bl_⟩⟩
 clear H';clear c3b0 c3b1 c4b0 c4b1;obtain ⟨x5_1,x11_1,rfl,HA,HK1,HO_5,HB⟩:=hrel;have hl5_1:=(Kd.aNz HO_5.out).1;rw [hl5_1] at HO_5
 (try simp only [hl5_1])
 rcases gk with _|k1
 ·exact Yf HA.out (by simp [cBz.l0])
 have H:=HA.out;clear HA;simp only [cBz.l0] at H;by_cases c8:x11_1<(y654.length:Int)
 rotate_left
 ·rw [Yb c8] at H;have c8b0:=Ze c8
  (first|(rw [hl5_1] at c8b0)|skip)
  clear c8;obtain rfl:=Zn H;go_wp2;go_ret;exact ⟨_,er_,xd_ HO_5.out,bl_⟩
 rw [Ya c8] at H;have c8b0:=Zd c8;clear c8;by_cases c9:0<=x11_1
 rotate_left
 ·rw [Yb c9] at H;exact Yf H (by simp)
 rw [Ya c9] at H;have c9b0:=Zd c9;clear c9;by_cases c10:x11_1<(x5_1.length:Int)
 rotate_left
 ·rw [Yb c10] at H;exact Yf H (by simp)
 rw [Ya c10] at H;have c10b0:=Zd c10;clear c10;obtain ⟨y657,hy657⟩: ∃y_:List Int,y_=(x5_1.set (x11_1:Int).toNat (wrap64 (a0+x11_1))):=⟨_,rfl⟩
 first|rw [Zl, <-hy657] at H|rw [<-hy657] at H
 (try dsimp only at H)
 have Ny657:=Za hy657;clear hy657;have H':=Za H;clear H;have p11:0<=(x11_1:Int):=Zc as_;have q11:(x11_1:Int)<((x5_1.length:Int):Int):=Zc as_;obtain ⟨go11,co11,eo11,gb11,gl11,cl11,HG11⟩:=Kd.R_form HO_5.out (by omega)
 (first|cases eo11|(injection eo11 with ea_ en_ ec_;(first|subst ea_|(injection ea_ with ea_;subst ea_));subst ec_;clear en_))
 have GB11:=Za gb11;have GG11:=Za HG11;clear gb11 gl11 HG11;obtain ⟨hx11_0,hf11_0⟩:=Kd.R_celln 0 HO_5.out (x11_1:Int) p11 q11;replace p11:=Zz p11;replace q11:=Zz q11;have HP12:=Kd.R_putg HO_5.out (x11_1:Int) (wrap64 (a0+x11_1))
 go_wp2_with (first|((with_reducible refine c9z (t:=3) (p:=19) rfl ?_);refine dnz (t:=3) (p:=19) (v:= ?vo_w13) (w1:=(wr.setCell ⟨go11,(x11_1:Int).toNat,none⟩ (.int .i64 (wrap64 (a0+x11_1))))) ?hg ?ho ?hn ?hr ?_;(case ho=>rfl);(case hg=>rfl);(case hn=>rfl);(case hr=>first|(go_simp;done)|(go_simp;rfl));intro w13 hw;have hg:wr.grownBy w13 (some go11):=(by rw [hw];exact HP12.2);have hp_:Kd.R (Kd.int .i64) 3 w13 w.heap.size (fun _=>True) (.slice (some ⟨go11,0,none⟩) x5_1.length co7) y657:=(by rw [hw,Ny657.out];exact HP12.1);clear HP12;have n_:=Zb (Za (hp_)) (Za ((by rw [hw];exact dfz (HB.out) GB11.out:Below w.heap.size w w13)));clear HO_5 HB;obtain ⟨HO_5,HB⟩:=n_;clear hg hw hp_))
 (try simp only [<-hl5_1])
 go_roundg k1
 case measure=>have:=HK1.out;omega
 case rel=>exact ⟨(y657),(wrap64 (x11_1+1)),sd_,H',⟨by have:=HK1.out;omega⟩,⟨by (try simp only [hl5_1]);(with_reducible repeat (first|apply Kd.c7z|apply Kd.dmz|apply Kd.c1z));exact HO_5.out⟩,⟨bl_⟩⟩
theorem ofInt64 (a:Nat) (ha:a<9223372036854775808):(BitVec.ofInt 64 (a:Int)).toNat=a:=by
 rw [BitVec.ofInt_natCast,BitVec.toNat_ofNat];exact Nat.mod_eq_of_lt (by omega)
theorem i64_and1 (a:Nat) (ha:a<9223372036854775808):Go.bits .and .i64 (a:Int) 1=((a % 2:Nat):Int):=by
 show IntKind.i64.wrap ((BitVec.ofInt 64 (a:Int)&&&BitVec.ofInt 64 (1:Int)).toNat:Int)=_;rw [BitVec.toNat_and,ofInt64 a ha,show (1:Int)=((1:Nat):Int) from rfl,ofInt64 1 (by omega),Nat.and_one_is_mod,IntKind.wrap_i64];omega
theorem gmN_assoc {wb:Int} (hw:wb=8\/wb=16) {a b:Nat} (ha:(a:Int)<fsize wb) (hb:(b:Int)<fsize wb) (c:Nat):gmN wb (gmN wb a b) c=gmN wb a (gmN wb b c):=by
 rcases hw with rfl|rfl
 ·exact gf8.toGf.assoc (by simp [fsize] at ha;omega) (by simp [fsize] at hb;omega) c
 ·exact gf16.toGf.assoc (by simp [fsize] at ha;omega) (by simp [fsize] at hb;omega) c
theorem gpwN_zero (wb:Int) (a:Nat):gpwN wb a 0=1:=by unfold gpwN;split<;>rfl
theorem gpwN_even {wb:Int} (hw:wb=8\/wb=16) {a:Nat} (ha:(a:Int)<fsize wb) (n:Nat):gpwN wb (gmN wb a a) n=gpwN wb a (2*n):=by
 rcases hw with rfl|rfl
 ·exact gf8.toGf.gp_sq (by simp [fsize] at ha;omega) n
 ·exact gf16.toGf.gp_sq (by simp [fsize] at ha;omega) n
theorem gpwN_lt {wb:Int} (hw:wb=8\/wb=16) {a:Nat} (ha:(a:Int)<fsize wb) (n:Nat):(gpwN wb a n:Int)<fsize wb:=by
 rcases hw with rfl|rfl
 ·have:=gf8.toGf.gp_lt (a:=a) (by simp [fsize] at ha;omega) n;simp only [gpwN,fsize,if_true];omega
 ·have:=gf16.toGf.gp_lt (a:=a) (by simp [fsize] at ha;omega) n;simp only [gpwN,fsize,show¬((16:Int)=8) by decide,if_false];omega
theorem gpwN_odd {wb:Int} (hw:wb=8\/wb=16) {a:Nat} (ha:(a:Int)<fsize wb) (n:Nat):gmN wb a (gpwN wb (gmN wb a a) n)=gpwN wb a (2*n+1):=by
 rw [gpwN_even hw ha];rcases hw with rfl|rfl
 ·exact gf8.toGf.comm (by simp [fsize] at ha;omega) (gf8.toGf.gp_lt (by simp [fsize] at ha;omega) _)
 ·exact gf16.toGf.comm (by simp [fsize] at ha;omega) (gf16.toGf.gp_lt (by simp [fsize] at ha;omega) _)
theorem gmN_one {wb:Int} (hw:wb=8\/wb=16) {a:Nat} (ha:(a:Int)<fsize wb):gmN wb 1 a=a:=by
 rcases hw with rfl|rfl
 ·exact gf8.toGf.dZz (by simp [fsize] at ha;omega)
 ·exact gf16.toGf.dZz (by simp [fsize] at ha;omega)
theorem gmul_in {wb a b:Int} (ha:0<=a) (ha':a<fsize wb) (hb:0<=b) (hb':b<fsize wb):gmul wb a b=(gmN wb a.toNat b.toNat:Int):=by
 unfold gmul;rw [Ya (by simp [inF];omega)]
theorem gpow_out {wb a n:Int} (h:(inF wb a&&decide (0<=n))=false):gpow wb a n=0:=by simp [gpow,h]
def PowRel (wb:Int) (R:Nat) (o x:Int) (m:Nat):Prop:=0<=o/\o<fsize wb/\0<=x/\x<fsize wb/\gmN wb o.toNat (gpwN wb x.toNat m)=R
theorem PowRel.even {wb:Int} (hw:wb=8\/wb=16) {R:Nat} {o x:Int} {m:Nat} (h:PowRel wb R o x m) (he:m % 2=0):PowRel wb R o (gmul wb x x) (m / 2):=by
 obtain ⟨h1,h2,h3,h4,h5⟩:=h;have hr:=bQz hw x x;refine ⟨h1,h2,hr.1,hr.2,?_⟩;rw [gmul_in h3 h4 h3 h4,Zu,gpwN_even hw (by omega),show 2*(m / 2)=m by omega];exact h5
theorem PowRel.odd {wb:Int} (hw:wb=8\/wb=16) {R:Nat} {o x:Int} {m:Nat} (h:PowRel wb R o x m) (he:m % 2=1):PowRel wb R (gmul wb o x) (gmul wb x x) (m / 2):=by
 obtain ⟨h1,h2,h3,h4,h5⟩:=h;have hr:=bQz hw x x;have hr':=bQz hw o x;refine ⟨hr'.1,hr'.2,hr.1,hr.2,?_⟩;rw [gmul_in h1 h2 h3 h4,gmul_in h3 h4 h3 h4,Zu,Zu,gmN_assoc hw (by omega) (by omega),gpwN_odd hw (by omega),show 2*(m / 2)+1=m by omega];exact h5
theorem PowRel.done {wb:Int} (hw:wb=8\/wb=16) {R:Nat} {o x:Int} (h:PowRel wb R o x 0):o=(R:Int):=by
 obtain ⟨h1,h2,h3,h4,h5⟩:=h;rw [gpwN_zero] at h5
 have:gmN wb o.toNat 1=o.toNat:=by
  rcases hw with rfl|rfl
  ·exact gf8.toGf.one_right (by simp [fsize] at h2;omega)
  ·exact gf16.toGf.one_right (by simp [fsize] at h2;omega)
 omega
theorem PowRel.start {wb:Int} (hw:wb=8\/wb=16) {a:Int} {n:Nat} (ha:0<=a) (ha':a<fsize wb):PowRel wb (gpwN wb a.toNat n) 1 a n:=
 ⟨by omega,by rcases hw with rfl|rfl<;>decide,ha,ha',gmN_one hw (gpwN_lt hw (by omega) _)⟩
theorem gf_Pow.calls (g : Nat) (S : Nat -> Prop) (wb a : Int) (n : Nat) (W : World) (hn : n <= 1000000) (hw : wb = 8 \/ wb = 16) (hF : Fd W g wb (fpoly wb) S) (hS : ∀ k, S k -> k < W.heap.size) :
  Calls Tryz.prog 122 #[.pointer (some ⟨g,0,none⟩), .int .i64 a, .int .i64 (n:Int)] W fun e w'=>e= .returned (.int .i64 (gpow wb a n))/\Fd w' g wb (fpoly wb) S/\BB W w' g:=by
 have HC:=Za (gf_in.calls g wb (fpoly wb) S (some ⟨W.heap.size,0,none⟩) 1 [a] _ (hF.alloc (.cells #[.int .i64 a] 3)) hw (C_nums (t:=3) (heap_alloc_new _ _) (by simp)) (by simp));rw [allIn_one] at HC;have HF:=Za (hF.alloc (.cells #[.int .i64 a] 3));have HB:=Za ((BB.refl W g).alloc (.cells #[.int .i64 a] 3));have HS:=Za hS;have HW:=Za hw;clear hF hS hw;have n0:(0:Int)<=(n:Int):=by omega
 have n1:decide ((n:Int)<0)=false:=Ze (by omega);by_cases hin:inF wb a=true
 ·have hg:gpow wb a n=((gpwN wb a.toNat n:Nat):Int):=by simp [gpow,hin]
  have hr:0<=a/\a<fsize wb:=by simpa [inF] using hin
  rw [hin] at HC;rw [hg];have HR:=Za (PowRel.start (n:=n) HW.out hr.1 hr.2);generalize gpwN wb a.toNat n=R at HR;clear hin hg hr;go_enter Tryz.func122,Tryz.ntmps122
  go_wp2_with (first|(go_at_call 151;refine HC.out.mono ?_;rintro e w9 ⟨rfl,m9,rfl⟩))
  go_loopw [7,1,2] (fun o x m wr=> ∃(o1 x1:Int) (m1:Nat),o= .int .i64 o1/\x= .int .i64 x1/\m= .int .i64 (m1:Int)/\m1<=1000000/\Aside0 (PowRel wb R o1 x1 m1)/\Aside0 (Fd wr g wb (fpoly wb) S)/\Aside0 (BB W wr g)) (fun _ _ m _=>(intOf m).toNat)
  case atStart=>exact ⟨1,a,n,rfl,rfl,rfl,hn,HR,⟨HF.out.drewN _⟩,⟨HB.out.drewN _⟩⟩
  clear HR HF HB HC n0 n1 hn;obtain ⟨o1,x1,m1,rfl,rfl,rfl,hm,HR,HF,HB⟩:=hrel;by_cases hpos:0<m1
  ·have p0:(0:Int)<(m1:Int):=by omega
   have HM:=Za<|fun (y:Int) (wq:World) (hq:Fd wq g wb (fpoly wb) S) (hb:BB W wq g)=>cOz.calls g S wb y x1 wq HW.out hq (fun k hk=>Zp (HS.out k hk) hb.size)
   by_cases hodd:m1 % 2=1
   ·have HR1:=Za (HR.out.odd HW.out hodd);have hand:(Go.bits .and .i64 (m1:Int) 1==1)=true:=by rw [i64_and1 m1 (by omega),hodd];rfl
    clear hodd
    go_wp2_with (first|(go_at_call 103;refine (HM.out _ _ (by first|exact HF.out|exact q1) (by first|exact HB.out|exact HB.out.trans q2)).mono ?_;rintro e w3 ⟨rfl,q1,q2⟩))
    exact ⟨⟨_,_,m1 / 2,rfl,rfl,by rw [show ((m1 / 2:Nat):Int)=(m1:Int) / 2 by omega],by omega,HR1,⟨q1⟩,⟨(HB.out.trans ‹BB wr _ g›).trans q2⟩⟩,by simp [intOf];omega⟩
   ·have HR1:=Za (HR.out.even HW.out (by omega));have hand:(Go.bits .and .i64 (m1:Int) 1==1)=false:=by rw [i64_and1 m1 (by omega),show m1 % 2=0 by omega];rfl
    clear hodd
    go_wp2_with (first|(go_at_call 103;refine (HM.out _ _ (by first|exact HF.out|exact HF.out.drewN _) (by first|exact HB.out|exact HB.out.drewN _)).mono ?_;rintro e w3 ⟨rfl,q1,q2⟩))
    exact ⟨⟨_,_,m1 / 2,rfl,rfl,by rw [show ((m1 / 2:Nat):Int)=(m1:Int) / 2 by omega],by omega,HR1,⟨q1⟩,⟨HB.out.trans q2⟩⟩,by simp [intOf];omega⟩
  ·obtain rfl:m1=0:=by omega
   obtain rfl:=HR.out.done HW.out;go_wp2;go_ret;exact ⟨rfl,HF.out,HB.out⟩
 ·have hin':inF wb a=false:=by simpa using hin
  rw [hin'] at HC;rw [gpow_out (by simp [hin'])];clear hin hin';go_enter Tryz.func122,Tryz.ntmps122
  go_wp2_with (first|(go_at_call 151;refine HC.out.mono ?_;rintro e w9 ⟨rfl,m9,rfl⟩))
  go_ret;exact ⟨rfl,HF.out.drewN _,HB.out.drewN _⟩
theorem gf_Inv.calls (g : Nat) (S : Nat -> Prop) (wb a : Int) (W : World) (hw : wb = 8 \/ wb = 16) (hF : Fd W g wb (fpoly wb) S) (hS : ∀ k, S k -> k < W.heap.size) :
  Calls Tryz.prog 114 #[.pointer (some ⟨g,0,none⟩), .int .i64 a] W fun e w'=>e= .returned (.tuple #[.int .i64 (ginv wb a), .bool (inF wb a&&a !=0)])/\Fd w' g wb (fpoly wb) S/\BB W w' g:=by
 have HC:=Za (gf_in.calls g wb (fpoly wb) S (some ⟨W.heap.size,0,none⟩) 1 [a] _ (hF.alloc (.cells #[.int .i64 a] 3)) hw (C_nums (t:=3) (heap_alloc_new _ _) (by simp)) (by simp));rw [allIn_one] at HC;have HF:=Za (hF.alloc (.cells #[.int .i64 a] 3));have HB:=Za ((BB.refl W g).alloc (.cells #[.int .i64 a] 3));have HS:=Za (show∀k,S k->k<(W.alloc (.cells #[.int .i64 a] 3)).heap.size from fun k hk=>by have:=hS k hk;simp;omega);have HW:=Za hw
 have HSZ: ∃n:Nat,fsize wb=((n:Nat):Int)+2/\n<=1000000:=by rcases hw with rfl|rfl;exact ⟨254,rfl,by omega⟩;exact ⟨65534,rfl,by omega⟩
 obtain ⟨n,hz,hn⟩:=HSZ;clear hF hS hw;by_cases hin:inF wb a=true
 ·by_cases h0:a=0
  ·subst h0;rw [hin] at HC;have e1:ginv wb 0=0:=by simp [ginv]
   have e2:(inF wb 0&&(0:Int) !=0)=false:=by simp
   rw [e1,e2];clear hin hz e1 e2;go_enter Tryz.func114,Tryz.ntmps114
   go_wp2_with (first|(go_at_call 151;refine HC.out.mono ?_;rintro e w9 ⟨rfl,m9,rfl⟩))
   go_ret2;exact ⟨rfl,HF.out.drewN _,HB.out.drewN _⟩
  ·rw [hin] at HC
   have e1:ginv wb a=gpow wb a n:=by
    have:(a !=0)=true:=by simpa using h0
    simp only [ginv,hin,this,Bool.and_self,if_true];rw [hz,Int.add_sub_cancel]
   have e2:(inF wb a&&a !=0)=true:=by simp [hin,h0]
   rw [e1,e2];have z1:(a==0)=false:=beq_eq_false_iff_ne.2 h0;have hs:IntKind.i64.wrap (fsize wb - 2)=(n:Int):=by rw [hz,IntKind.wrap_i64];omega
   have hs':wrap64 (fsize wb - 2)=(n:Int):=by rw [hz];unfold wrap64;omega
   clear hin hz e1 e2 h0;go_enter Tryz.func114,Tryz.ntmps114
   go_wp2_with (first|(go_at_call 151;refine HC.out.mono ?_;rintro e w9 ⟨rfl,m9,rfl⟩)|(go_at_call 150;refine (eqz.calls g wb (fpoly wb) S _ (HF.out.drewN _) HW.out).mono ?_;rintro e w9 ⟨rfl,m8,rfl⟩)|(go_at_call 122;refine (gf_Pow.calls g S wb a n _ hn HW.out (HF.out.drewN _) HS.out).mono ?_;rintro e w9 ⟨rfl,q1,q2⟩))
   go_ret2;exact ⟨rfl,q1,(HB.out.drewN _).trans q2⟩
 ·have hin':inF wb a=false:=by simpa using hin
  rw [hin'] at HC;have e1:ginv wb a=0:=by simp [ginv,hin']
  rw [e1];have e2:(false&&a !=0)=false:=rfl;rw [hin',e2];clear hin hin' hz e1 e2;go_enter Tryz.func114,Tryz.ntmps114
  go_wp2_with (first|(go_at_call 151;refine HC.out.mono ?_;rintro e w9 ⟨rfl,m9,rfl⟩))
  go_ret2;exact ⟨rfl,HF.out.drewN _,HB.out.drewN _⟩
end Go.Proofs.Xc
end
section
namespace Go.Proofs.Xc
open Go.RowKit Go.Proofs.Pw Go.Proofs.Pl Go.Proofs.Pm
attribute [local go_sem] a7z a8z bjz bkz aZz a0z a9z baz
open Go.Maps Go.WideMaps
def MapSet (w:World) (B:Nat) (l:List Int):Prop:=
 ∃D:DataW Unit,w.ownsMap Tryz.prog 3 (plainElem Tryz.prog 4) B l.length D/\Maps.IsMap D/\
  ∀x:Int,D.atKey (.int .i64 x) (.lit (.bool false))= .lit (.bool (decide (x∈l)))
theorem lawI:Keyed Tryz.prog 3:=int_keyed Tryz.underlying3
theorem zeroB (w:World):(zeroValue 4).run Tryz.prog w= .ok (.bool false) w:=by kernel_rfl
theorem MapSet.made (w:World):MapSet (w.alloc (.map #[] 0)) w.heap.size [] :=
 ⟨.map [],World.ownsMap_made w Tryz.prog 3 _,Maps.isMap_empty,fun s=>rfl⟩
theorem MapSet.put {w : World} {B : Nat} {l : List Int} {D : DataW Unit} {x : Int} (hm : Maps.IsMap D) (hd : ∀ s : Int, D.atKey (.int .i64 s) (.lit (.bool false)) = .lit (.bool (decide (s ∈ l))))
  (h:w.ownsMap Tryz.prog 3 (plainElem Tryz.prog 4) B (l.length+1) (D.put (.int .i64 x) (.lit (.bool true)))):MapSet w B (l++ [x]):=by
 refine ⟨_,by simpa using h,hm.put _ _,fun s=> ?_⟩;by_cases hx:x=s
 ·subst hx;rw [Maps.atKey_put_same hm (by trivial)];simp
 ·rw [Maps.atKey_put_other (fun h=>hx (by injection h with _ h;exact h.symm)),hd s];simp [Ne.symm hx]
theorem MapSet.look {w:World} {B:Nat} {l:List Int} (h:MapSet w B l) {x:Int} (hw:(Lit.int .i64 x).wf=true) (hx:x∉l):(Instr.lookup 195 (.map (some B)) (.int .i64 x) false).run Tryz.prog w= .ok (.bool false) w:=by
 obtain ⟨D,ho,hm,hd⟩:=h;obtain ⟨v,ps,hrun,hv⟩:=ho.lookup lawI Tryz.underlying195 (zeroB w) (plainElem_bool Tryz.underlying4 false) (keyOf_int_mk Tryz.underlying3 hw);rw [hd x,Ze hx] at hv;rw [hrun];unfold plainElem at hv;rw [show Tryz.prog.underlying 4=some .bool from Tryz.underlying4] at hv;cases v<;>simp at hv
 rw [hv.1]
theorem MapSet.grow {w w1:World} {B:Nat} {l:List Int} {row:Option Nat} (h:MapSet w B l) (hg:w.grownBy w1 row) (hne:some B≠row):MapSet w1 B l:=by
 obtain ⟨D,ho,r⟩:=h;exact ⟨D,ho.kept hg hne,r⟩
theorem grown_of_b {w w1:World} (h:Below w.heap.size w w1):w.grownBy w1 none:=⟨h.os,h.tape,h.output,h.size,fun k hk _=>h.block k hk⟩
theorem MapSet.below {w w1:World} {B:Nat} {l:List Int} (h:MapSet w B l) (hb:Below w.heap.size w w1):MapSet w1 B l:=h.grow (grown_of_b hb) (by simp)
theorem MapSet.noncells {w:World} {B:Nat} {l:List Int} (h:MapSet w B l): ∃o:Obj,w.heap[B]?=some o/\o.isCells=false:=by
 obtain ⟨D,⟨es,clock,hb, -⟩, -⟩:=h;exact ⟨_,hb,rfl⟩
end Go.Proofs.Xc
end
section
namespace Go.Proofs.Xc
open Go.RowKit Go.Proofs.Pw Go.Proofs.Pl Go.Proofs.Pm
attribute [local go_sem] a7z a8z bjz bkz aZz a0z a9z baz
structure Mx (W:World) (o:Nat) (bs:List (Nat×Nat)) (rows:List (List Int)):Prop where
 len:bs.length=rows.length
 outer: ∃co:Array Value,W.heap[o]?=some (.cells co 57 (0,0))/\ ∀(i:Nat) (b c:Nat) (row:List Int),bs[i]?=some (b,c)->rows[i]?=some row->co[i]?=some (.slice (some ⟨b,0,none⟩) row.length c)
 inner: ∀(i:Nat) (b c:Nat) (row:List Int),bs[i]?=some (b,c)->rows[i]?=some row->row.length<=c/\ ∃cs:Array Value,W.heap[b]?=some (.cells cs 3 (0,0))/\ ∀(j:Nat) (x:Int),row[j]?=some x->cs[j]?=some (.int .i64 x)
 nodup:(bs.map Prod.fst).Nodup
structure BS (w w':World) (g:Nat) (S:Nat->Prop):Prop where
 os:w'.os=w.os
 tape:w'.tape=w.tape
 output:w'.output=w.output
 size:w.heap.size<=w'.heap.size
 block: ∀i,i<w.heap.size->i≠g-> ¬S i->w'.heap[i]?=w.heap[i]?
namespace BS
variable {a b c : World} {g : Nat} {S : Nat -> Prop}
theorem refl (w:World) (g:Nat) (S:Nat->Prop):BS w w g S:=⟨rfl,rfl,rfl,Zv _,fun _ _ _ _=>rfl⟩
theorem trans (h:BS a b g S) (k:BS b c g S):BS a c g S:=
 ⟨k.os.trans h.os,k.tape.trans h.tape,k.output.trans h.output,Zt h.size k.size,fun i hi hg hs=>(k.block i (Zp hi h.size) hg hs).trans (h.block i hi hg hs)⟩
theorem of_bb (h:BB a b g):BS a b g S:=⟨h.os,h.tape,h.output,h.size,fun i hi hg _=>h.block i hi hg⟩
theorem drewN (h:BS a b g S) (n:Nat):BS a (b.drewN n) g S:=⟨h.os,h.tape,h.output,h.size,h.block⟩
theorem drew (h:BS a b g S):BS a b.drew g S:=⟨h.os,h.tape,h.output,h.size,h.block⟩
theorem alloc (h:BS a b g S) (o:Obj):BS a (b.alloc o) g S:=h.trans (of_bb (BB.of_below (alz (Zw _ _) o) g))
theorem set (h:BS a b g S) {p:Addr} (hp:S p.block\/a.heap.size<=p.block) (u:Value):BS a (b.setCell p u) g S:=
 ⟨h.os,h.tape,h.output,by simpa using h.size,fun i hi hg hs=>(Below.heap_setCell b p u i (fun e=>by rcases hp with hp|hp;exact hs (e▸hp);omega)).trans (h.block i hi hg hs)⟩
theorem blk (h:BS a b g S) {k:Nat} {o:Obj} (hk:a.heap[k]?=some o) (hg:k≠g) (hs: ¬S k):b.heap[k]?=some o:=(h.block k (aPz hk) hg hs).trans hk
end BS
theorem cFz {a b:World} {g:Nat} (h:BB a b g) {p:Addr} {v:Value} (hp:a.cell? p=some v) (hg:p.block≠g):b.cell? p=some v:=
 (World.cell?_of_block (h.block p.block (Zj _ _ hp) hg)).trans hp
theorem froz_bb {a b:World} {g:Nat} (h:BB a b g) {p:Addr} (hlt:p.block<a.heap.size) (hp:a.frozen? p=false) (hg:p.block≠g):b.frozen? p=false:=by
 have:=h.block p.block hlt hg
 unfold World.frozen? at *
 rw [this];exact hp
namespace Mx
variable {W W1 : World} {o : Nat} {bs : List (Nat × Nat)} {rows : List (List Int)}
theorem cIz (h:Mx W o bs rows) {i b c:Nat} {row:List Int} (hb:bs[i]?=some (b,c)) (hr:rows[i]?=some row):W.cell? ⟨o,i,none⟩=some (.slice (some ⟨b,0,none⟩) row.length c):=by
 obtain ⟨co,h1,h2⟩:=h.outer;rw [aaz h1 i];exact h2 i b c row hb hr
theorem froz_o (h:Mx W o bs rows) (i:Nat):W.frozen? ⟨o,i,none⟩=false:=by
 obtain ⟨co,h1,h2⟩:=h.outer;exact a6z h1 i
theorem lt_o (h:Mx W o bs rows):o<W.heap.size:=by
 obtain ⟨co,h1,h2⟩:=h.outer;exact aPz h1
theorem c4z (h:Mx W o bs rows) {i b c j:Nat} {row:List Int} {x:Int} (hb:bs[i]?=some (b,c)) (hr:rows[i]?=some row) (hx:row[j]?=some x):W.cell? ⟨b,j,none⟩=some (.int .i64 x):=by
 obtain ⟨-,cs,h1,h2⟩:=h.inner i b c row hb hr;rw [aaz h1 j];exact h2 j x hx
theorem froz_i (h:Mx W o bs rows) {i b c:Nat} (hb:bs[i]?=some (b,c)) (j:Nat):W.frozen? ⟨b,j,none⟩=false:=by
 obtain ⟨row,hr⟩: ∃row,rows[i]?=some row:=⟨_,Zf (by have:=(Zk hb).1;have:=h.len;omega)⟩;obtain ⟨-,cs,h1,h2⟩:=h.inner i b c row hb hr;exact a6z h1 j
theorem lt_i (h:Mx W o bs rows) {i b c:Nat} (hb:bs[i]?=some (b,c)):b<W.heap.size:=by
 obtain ⟨row,hr⟩: ∃row,rows[i]?=some row:=⟨_,Zf (by have:=(Zk hb).1;have:=h.len;omega)⟩;obtain ⟨-,cs,h1,h2⟩:=h.inner i b c row hb hr;exact aPz h1
theorem ne_o (h:Mx W o bs rows) {i b c:Nat} (hb:bs[i]?=some (b,c)):b≠o:=by
 obtain ⟨row,hr⟩: ∃row,rows[i]?=some row:=⟨_,Zf (by have:=(Zk hb).1;have:=h.len;omega)⟩;obtain ⟨-,cs,h1,h2⟩:=h.inner i b c row hb hr;obtain ⟨co,h3,h4⟩:=h.outer;rintro rfl;rw [h1] at h3;injection h3 with h3
 injection h3 with _ h3
 exact Yf h3 (by decide)
theorem ne_ij (h:Mx W o bs rows) {i j b c b' c':Nat} (hb:bs[i]?=some (b,c)) (hb':bs[j]?=some (b',c')) (hij:i≠j):b≠b':=by
 have h1:(bs.map Prod.fst)[i]?=some b:=by rw [List.getElem?_map,hb];rfl
 have h2:(bs.map Prod.fst)[j]?=some b':=by rw [List.getElem?_map,hb'];rfl
 rintro rfl;obtain ⟨hi,e1⟩:=Zk h1;obtain ⟨hj,e2⟩:=Zk h2;have hp:=List.pairwise_iff_getElem.1 h.nodup;rcases Nat.lt_or_gt_of_ne hij with hlt|hlt
 ·exact hp i j hi hj hlt (e1.trans e2.symm)
 ·exact hp j i hj hi hlt (e2.trans e1.symm)
theorem move (h:Mx W o bs rows) (ho:W1.heap[o]?=W.heap[o]?) (hb: ∀(i b c:Nat),bs[i]?=some (b,c)->W1.heap[b]?=W.heap[b]?):Mx W1 o bs rows:=by
 obtain ⟨h1,⟨co,h2,h3⟩,h4,h5⟩:=h;refine ⟨h1,⟨co,ho.trans h2,h3⟩,fun i b c row hi hr=> ?_,h5⟩;obtain ⟨hc,cs,h6,h7⟩:=h4 i b c row hi hr;exact ⟨hc,cs,(hb i b c hi).trans h6,h7⟩
theorem below (h:Mx W o bs rows) (hb:Below W.heap.size W W1):Mx W1 o bs rows:=h.move (hb.block _ h.lt_o) (fun _ _ _ hi=>hb.block _ (h.lt_i hi))
theorem alloc (h:Mx W o bs rows) (x:Obj):Mx (W.alloc x) o bs rows:=h.below (alz (Zw _ _) x)
theorem drewN (h:Mx W o bs rows) (n:Nat):Mx (W.drewN n) o bs rows:=h.move rfl (fun _ _ _ _=>rfl)
theorem drew (h:Mx W o bs rows):Mx W.drew o bs rows:=h.move rfl (fun _ _ _ _=>rfl)
theorem ne_g (h:Mx W o bs rows) {g:Nat} {cs:Array Value} (hg:W.heap[g]?=some (.cells cs 172 (0,0))):o≠g/\ ∀(i b c:Nat),bs[i]?=some (b,c)->b≠g:=by
 refine ⟨?_,fun i b c hb=> ?_⟩
 ·obtain ⟨co,h3,h4⟩:=h.outer;rintro rfl;rw [hg] at h3;injection h3 with h3
  injection h3 with _ h3
  exact Yf h3 (by decide)
 ·obtain ⟨row,hr⟩: ∃row,rows[i]?=some row:=⟨_,Zf (by have:=(Zk hb).1;have:=h.len;omega)⟩;obtain ⟨-,cs,h1,h2⟩:=h.inner i b c row hb hr;rintro rfl;rw [hg] at h1;injection h1 with h1
  injection h1 with _ h1
  exact Yf h1 (by decide)
theorem bb (h:Mx W o bs rows) {g:Nat} (hg:o≠g/\ ∀(i b c:Nat),bs[i]?=some (b,c)->b≠g) (hb:BB W W1 g):Mx W1 o bs rows:=h.move (hb.block _ h.lt_o hg.1) (fun i b c hi=>hb.block _ (h.lt_i hi) (hg.2 i b c hi))
theorem set (h:Mx W o bs rows) {i b c j:Nat} {row:List Int} (hb:bs[i]?=some (b,c)) (hr:rows[i]?=some row) (x:Int):Mx (W.setCell ⟨b,j,none⟩ (.int .i64 x)) o bs (rows.set i (row.set j x)):=by
 have hne:=h.ne_o hb;refine ⟨by rw [List.length_set];exact h.len,?_,fun k b' c' row' hk hr'=> ?_,h.nodup⟩
 ·obtain ⟨co,h1,h2⟩:=h.outer;refine ⟨co,bHz h1 (Ne.symm hne) _,fun k b' c' row' hk hr'=> ?_⟩;by_cases hki:i=k
  ·subst hki
   have:row.set j x=row':=by
    rw [List.getElem?_set_self (Zk hr).1] at hr';exact Zn hr'
   rw [<-this,List.length_set];exact h2 _ _ _ _ hk hr
  ·rw [List.getElem?_set_ne hki] at hr';exact h2 k b' c' row' hk hr'
 ·by_cases hki:i=k
  ·subst hki;rw [hb] at hk;injection hk with hk
   injection hk with e1 e2
   subst e1;subst e2
   have e:row.set j x=row':=by
    rw [List.getElem?_set_self (Zk hr).1] at hr';exact Zn hr'
   subst e;obtain ⟨hc,cs,h1,h2⟩:=h.inner i b c row hb hr;refine ⟨by rw [List.length_set];exact hc,_,enz h1 j _,fun j' x' hx'=> ?_⟩;by_cases hj:j=j'
   ·subst hj;obtain ⟨hlt,e⟩:=Zk hx';rw [List.length_set] at hlt;rw [List.getElem_set_self] at e;subst e;have:=h2 j _ (Zf hlt);have hl:=(Array.getElem?_eq_some_iff.1 this).1;simp [hl]
   ·rw [List.getElem?_set_ne hj] at hx';rw [Array.getElem?_setIfInBounds_ne hj];exact h2 j' x' hx'
  ·rw [List.getElem?_set_ne hki] at hr';obtain ⟨hc,cs,h1,h2⟩:=h.inner k b' c' row' hk hr';exact ⟨hc,cs,bHz h1 (Ne.symm (h.ne_ij hb hk hki)) _,h2⟩
end Mx
theorem Fd.typed {W:World} {g:Nat} {wb p:Int} {S:Nat->Prop} (h:Fd W g wb p S): ∃cs,W.heap[g]?=some (.cells cs 172 (0,0)):=by
 obtain ⟨-,h|⟨-, -,a,b,h, -⟩⟩:=h
 ·exact ⟨_,h⟩
 ·exact ⟨_,h⟩
def mid (f:Int->Int->Int) (row pr:List Int) (k:Nat):List Int:=(List.zipWith f row pr).take k++row.drop k
theorem mid_zero (f:Int->Int->Int) (row pr:List Int):mid f row pr 0=row:=by simp [mid]
theorem mid_length (f:Int->Int->Int) (row pr:List Int) (k:Nat) (hk:k<=row.length) (hl:row.length=pr.length):(mid f row pr k).length=row.length:=by
 simp only [mid,List.length_append,List.length_take,List.length_zipWith,List.length_drop];omega
theorem mid_at (f:Int->Int->Int) (row pr:List Int) (k:Nat) (x:Int) (hx:row[k]?=some x) (hl:row.length=pr.length):(mid f row pr k)[k]?=some x:=by
 have hk:=(Zk hx).1;unfold mid;rw [List.getElem?_append_right (by simp;omega)];simp [List.length_take,List.length_zipWith, <-hl];rw [Nat.min_eq_left (by omega),Nat.sub_self,Nat.add_zero];exact hx
theorem mid_step (f:Int->Int->Int) (row pr:List Int) (k:Nat) (x y:Int) (hx:row[k]?=some x) (hy:pr[k]?=some y) (hl:row.length=pr.length):(mid f row pr k).set k (f x y)=mid f row pr (k+1):=by
 have hk:=(Zk hx).1;have hz:(List.zipWith f row pr)[k]?=some (f x y):=by simp [List.getElem?_zipWith,hx,hy]
 unfold mid;rw [List.set_append_right _ _ (by simp;omega)];have e:k - ((List.zipWith f row pr).take k).length=0:=by simp [List.length_take,List.length_zipWith, <-hl];omega
 rw [e,List.drop_eq_getElem_cons hk,Zh,List.take_add_one,hz,List.append_assoc];rfl
theorem mid_full (f:Int->Int->Int) (row pr:List Int) (hl:row.length=pr.length):mid f row pr row.length=List.zipWith f row pr:=by
 unfold mid;rw [List.drop_length,List.append_nil,List.take_of_length_le (by rw [List.length_zipWith];exact Nat.min_le_left _ _)]
structure Rd (W:World) (g fb ab tb o:Nat) (wb:Int) (S:Nat->Prop) (m co:Nat) (at_:Int):Prop where
 f:W.heap[fb]?=some (.cells #[.pointer (some ⟨g,0,none⟩)] 72 (0,0))
 a:W.heap[ab]?=some (.cells #[.slice (some ⟨o,0,none⟩) m co] 69 (0,0))
 t:W.heap[tb]?=some (.cells #[.int .i64 at_] 3 (0,0))
 fS: ¬S fb
 aS: ¬S ab
 tS: ¬S tb
 fg:fb≠g
 ag:ab≠g
 tg:tb≠g
theorem Rd.bs {W W1:World} {g fb ab tb o:Nat} {wb:Int} {S:Nat->Prop} {m co:Nat} {at_:Int} (h:Rd W g fb ab tb o wb S m co at_) (hb:BS W W1 g S):Rd W1 g fb ab tb o wb S m co at_:=
 ⟨hb.blk h.f h.fg h.fS,hb.blk h.a h.ag h.aS,hb.blk h.t h.tg h.tS,h.fS,h.aS,h.tS,h.fg,h.ag,h.tg⟩
def clrF (wb n:Int):Int->Int->Int:=fun x y=>Go.bits .xor .i64 x (gmul wb n y)
theorem set_same {α:Type} {l:List α} {i:Nat} {x:α} (h:l[i]?=some x):l.set i x=l:=by
 obtain ⟨hi,rfl⟩:=Zk h;simp
def S6 (fb ab tb g o m co at_ ba L ca bi k:Nat) (x y:Int) (W':World):Prop:=W'.cell? ⟨fb,0,none⟩=some (.pointer (some ⟨g,0,none⟩))/\W'.cell? ⟨ab,0,none⟩=some (.slice (some ⟨o,0,none⟩) m co)/\W'.cell? ⟨tb,0,none⟩=some (.int .i64 (at_:Int))/\W'.cell? ⟨o,at_,none⟩=some (.slice (some ⟨ba,0,none⟩) L ca)/\W'.cell? ⟨ba,k,none⟩=some (.int .i64 y)/\W'.cell? ⟨bi,k,none⟩=some (.int .i64 x)
theorem S6.bb {fb ab tb g o m co at_ ba L ca bi k:Nat} {x y:Int} {W W1:World} (hne:fb≠g/\ab≠g/\tb≠g/\o≠g/\ba≠g/\bi≠g) (h:S6 fb ab tb g o m co at_ ba L ca bi k x y W) (hb:BB W W1 g):S6 fb ab tb g o m co at_ ba L ca bi k x y W1:=
 ⟨cFz hb h.1 hne.1,cFz hb h.2.1 hne.2.1,cFz hb h.2.2.1 hne.2.2.1,cFz hb h.2.2.2.1 hne.2.2.2.1,cFz hb h.2.2.2.2.1 hne.2.2.2.2.1,cFz hb h.2.2.2.2.2 hne.2.2.2.2.2⟩
theorem S6.drew {fb ab tb g o m co at_ ba L ca bi k:Nat} {x y:Int} {W:World} (h:S6 fb ab tb g o m co at_ ba L ca bi k x y W):S6 fb ab tb g o m co at_ ba L ca bi k x y W.drew:=h
theorem S6.drewN {fb ab tb g o m co at_ ba L ca bi k:Nat} {x y:Int} {W:World} (h:S6 fb ab tb g o m co at_ ba L ca bi k x y W) (n:Nat):S6 fb ab tb g o m co at_ ba L ca bi k x y (W.drewN n):=h
theorem clear.calls (g fb ab tb o : Nat) (wb : Int) (S S0 : Nat -> Prop) (m co i at_ bi ci ba ca c L : Nat) (n : Int) (bs : List (Nat × Nat)) (rows : List (List Int)) (row pr : List Int) (W : World) (hw : wb = 8 \/ wb = 16) (hF : Fd W g wb (fpoly wb) S) (hS : ∀ k, S k -> k < W.heap.size)
  (hM:Mx W o bs rows) (hSb: ∀(i b c:Nat),bs[i]?=some (b,c)->S0 b) (hS0: ∀k,S0 k->S k) (hR:Rd W g fb ab tb o wb S0 m co (at_:Int)) (hmm:at_<m) (hbi:bs[i]?=some (bi,ci)) (hri:rows[i]?=some row) (hba:bs[at_]?=some (ba,ca)) (hra:rows[at_]?=some pr) (hia:i≠at_) (hl:row.length=L) (hl':pr.length=L) (hll:L<=1000) (hc:row[c]?=some n):
  Calls Tryz.prog 174 #[.slice (some ⟨bi,0,none⟩) L ci, .int .i64 (c:Int), .pointer (some ⟨fb,0,none⟩), .pointer (some ⟨ab,0,none⟩), .pointer (some ⟨tb,0,none⟩)] W fun e w'=>e= .returned (.tuple #[])/\Mx w' o bs (rows.set i (List.zipWith (clrF wb n) row pr))/\Fd w' g wb (fpoly wb) S/\BS W w' g S0:=by
 have HW:=Za hw;have HS:=Za hS;have HSB:=Za hSb;have HS0:=Za hS0;have HF:=Za hF;have HR:=Za hR;have HBI:=Za hbi;have HRI:=Za hri;have HBA:=Za hba;have HRA:=Za hra
 have HM:=Za (show Mx W o bs (rows.set i (mid (clrF wb n) row pr 0)) by
  rw [mid_zero,set_same hri];exact hM)
 have hcl:c<row.length:=(Zk hc).1;have hc0:W.cell? ⟨bi,c,none⟩=some (.int .i64 n):=hM.c4z hbi hri hc;obtain ⟨gcs,hgcs⟩:=hF.typed;have hng:=hM.ne_g hgcs;have hne6:fb≠g/\ab≠g/\tb≠g/\o≠g/\ba≠g/\bi≠g:=⟨hR.fg,hR.ag,hR.tg,hng.1,hng.2 _ _ _ hba,hng.2 _ _ _ hbi⟩;have HNE:=Za hne6;have HNG:=Za hng;have HL:=Za hl;have HLP:=Za hl';have c1:(0:Int)<=(c:Int):=by omega
 have c2:(c:Int)<(L:Int):=by omega
 have m1:(0:Int)<=(at_:Int):=by omega
 have m2:(at_:Int)<(m:Int):=by omega
 clear hw hS hSb hS0 hF hR hM hbi hri hba hra hc hgcs hng hne6 hcl hl hl';go_enter Tryz.func174,Tryz.ntmps174;go_wp2
 go_loopw [15] (fun j wr=> ∃k:Nat,k<=L/\j= .int .i64 (k:Int)/\Aside0 (Mx wr o bs (rows.set i (mid (clrF wb n) row pr k)))/\Aside0 (Fd wr g wb (fpoly wb) S)/\Aside0 (BS W wr g S0)) (fun j _=>L - (intOf j).toNat)
 case atStart=>exact ⟨0,Nat.zero_le _,rfl,HM,HF,⟨BS.refl _ _ _⟩⟩
 clear HM HF hc0;obtain ⟨k,hk,rfl,HM,HF,HB⟩:=hrel;by_cases hlt:k<L
 ·obtain ⟨x,hx⟩: ∃x,row[k]?=some x:=⟨_,Zf (by have:=HL.out;omega)⟩;obtain ⟨y,hy⟩: ∃y,pr[k]?=some y:=⟨_,Zf (by have:=HLP.out;omega)⟩;have HLL:=Za (HL.out.trans HLP.out.symm);have hilt:i<rows.length:=(Zk HRI.out).1;have hself:(rows.set i (mid (clrF wb n) row pr k))[i]?=some (mid (clrF wb n) row pr k):=List.getElem?_set_self hilt;have hat:(rows.set i (mid (clrF wb n) row pr k))[at_]?=some pr:=by rw [List.getElem?_set_ne hia];exact HRA.out
  have hRw:=HR.out.bs HB.out;have h6:S6 fb ab tb g o m co at_ ba L ca bi k x y wr:=⟨(aaz hRw.f 0).trans rfl,(aaz hRw.a 0).trans rfl,(aaz hRw.t 0).trans rfl,by rw [HM.out.cIz HBA.out hat,HLP.out],HM.out.c4z HBA.out hat hy,HM.out.c4z HBI.out hself (mid_at _ _ _ _ _ hx HLL.out)⟩;have HSTEP:=Za (mid_step (clrF wb n) row pr k x y hx hy HLL.out);have HSELF:=Za hself;have h6':=h6;obtain ⟨k1,k2,k3,k4,k5,k6⟩:=h6';have hz:=HM.out.froz_i HBI.out k;have hbl:=HM.out.lt_i HBI.out;have HFR:=Za (fun (w3:World) (h:BB wr w3 g)=>froz_bb h (p:=⟨bi,k,none⟩) hbl hz HNE.out.2.2.2.2.2);have n1:(0:Int)<=(k:Int):=by omega
  have n2:(k:Int)<(L:Int):=by omega
  have HSS:=Za (show∀k,S k->k<wr.drew.heap.size from fun k hk=>Zp (HS.out k hk) HB.out.size);clear hx hy hself hat hRw hz
  go_wp2_with fail
  refine clz (n:=17) (S:=fun w'=>w'.cell? ⟨fb,0,none⟩=some (.pointer (some ⟨g,0,none⟩))/\w'.cell? ⟨ab,0,none⟩=some (.slice (some ⟨o,0,none⟩) m co)/\w'.cell? ⟨tb,0,none⟩=some (.int .i64 (at_:Int))/\w'.cell? ⟨o,at_,none⟩=some (.slice (some ⟨ba,0,none⟩) L ca)/\w'.cell? ⟨ba,k,none⟩=some (.int .i64 y)/\w'.cell? ⟨bi,k,none⟩=some (.int .i64 x)) (ds:= [16]) (bA 17 0) kr_ rfl rfl ⟨k1,k2,k3,k4,k5,k6⟩ (fun hHeld=> ?_);refine pu_ 0 18 1 ?_;refine pu_ 1 19 3 ?_;refine pu_ 2 20 7 ?_;refine pu_ 5 23 39 ?_;refine pu_ 10 28 1063 ?_;refine tk_ 3 21 1071 hHeld ?_;refine tk_ 4 22 1087 hHeld ?_;refine tk_ 6 24 1151 hHeld ?_;refine tk_ 7 25 1279 hHeld ?_;refine pu_ 8 26 1535 ?_;refine tk_ 9 27 2047 hHeld ?_;refine pu_ 11 29 4095 ?_;refine tk_ 12 30 8191 hHeld ?_;refine one_ (i:=13) (N:=some 31) (bA 17 16383) rfl rfl kr_ (by decide) (fun K hK=> ?_);refine goes_ Tryz.func103 kr_ rfl #[.pointer (some ⟨g,0,none⟩), .int .i64 n, .int .i64 y] (by rfl) rfl rfl am_ ?_
  with_reducible refine (cOz.calls g S wb n y _ HW.out HF.out.drew HSS.out).mono ?_
  rintro e w3 ⟨rfl,q1,q2⟩;refine ⟨_,rfl,?_⟩;have q3:BB wr w3 g:=⟨q2.os,q2.tape,q2.output,q2.size,q2.block⟩;have h6c:=S6.bb HNE.out h6 q3;have hz3:=HFR.out w3 q3;have hc3:=h6c.2.2.2.2.2;have Q1:=Za q1;have Q3:=Za q3;clear q1 q2 q3;refine hK.out _ _ ⟨h6c.1,h6c.2.1,h6c.2.2.1,h6c.2.2.2.1,h6c.2.2.2.2.1,h6c.2.2.2.2.2⟩ (fun hHeld=> ?_);clear hK K;refine norm_ (a':= ?_) ?_ ?_;rotate_left
  ·show Act.put _ (some 31) _=_;simp only [Act.put,Zg,Zh,Zi,i64_w,i32_w];rfl
  refine pu_ 14 32 32767 ?_;refine pu_ 15 33 65535 ?_;refine last_ (i:=16) (N:=none) (bA 17 131071) rfl rfl kr_ (by decide) (fun K hK=> ?_);refine skip_ (w1:= ?_) (by rfl) rfl ?_ ?_;rotate_left
  ·go_simp;rfl
  refine hK.out _ _ ?_;clear hK K;refine done_ kr_ ?_
  have HN1:=Za (show Mx (w3.setCell ⟨bi,k,none⟩ (.int .i64 (Go.bits .xor .i64 x (gmul wb n y)))) o bs (rows.set i (mid (clrF wb n) row pr (k+1))) by
   have h1:=(HM.out.bb HNG.out Q3.out).set (j:=k) HBI.out HSELF.out (Go.bits .xor .i64 x (gmul wb n y));rw [List.set_set] at h1
   rw [<-HSTEP.out];exact h1)
  have HN2:=Za (Q1.out.set (q:=⟨bi,k,none⟩) (HS0.out _ (HSB.out _ _ _ HBI.out)) (.int .i64 (Go.bits .xor .i64 x (gmul wb n y))));have HN3:=Za ((HB.out.trans (BS.of_bb Q3.out)).set (p:=⟨bi,k,none⟩) (.inl (HSB.out _ _ _ HBI.out)) (.int .i64 (Go.bits .xor .i64 x (gmul wb n y))));go_wp2;go_roundw
  case rel=>exact ⟨k+1,by omega,by go_num,HN1,HN2,HN3⟩
  case measure=>simp [intOf];omega
 ·obtain rfl:k=L:=by omega
  have HE:=Za HM.out;rw [<-HL.out,mid_full _ _ _ (HL.out.trans HLP.out.symm)] at HE;go_wp2
  go_end0
  exact ⟨rfl,HE.out,HF.out,HB.out⟩
end Go.Proofs.Xc
end
