-- Joined texts of this work (wip/tools/bundle.py).
import Derived.RegionCalls
import Derived.Tactics2
import Derived.Defers
import Derived.Laws.Pointers
import Derived.Laws.LoneSync
import Derived.ChangeAlike
import Derived.Laws.NewBlocks
import Derived.Outline
import Derived.Laws.Bits64
import Derived.Laws.CopyOwn
import Derived.Test.YtpdakdcmahlghaaGreatBCodecEncodes4
set_option maxHeartbeats 8000000
set_option maxRecDepth 100000
set_option linter.unusedVariables false
set_option linter.unusedSimpArgs false
section
namespace Go.Proofs.Xc
open Go.RowKit Go.Proofs.Pw Go.Proofs.Pl Go.Proofs.Pm
attribute [local go_sem] baz bbz bmz bnz a2z a3z bcz bdz
theorem e7z (w:World):(callFunc 205 #[]).run Tryz.prog w= .ok (.value (.tuple #[])) w:=run_call_mark0 Tryz.func205 kr_ kr_ kr_ .disable kr_ w
theorem once_enable (w:World):(callFunc 207 #[]).run Tryz.prog w= .ok (.value (.tuple #[])) w:=run_call_mark0 Tryz.func207 kr_ kr_ kr_ .enable kr_ w
theorem once_acquire (a:Addr) (w:World):(callFunc 208 #[.pointer (some a)]).run Tryz.prog w= .ok (.value (.tuple #[])) w:=run_call_marked Tryz.func208 kr_ kr_ kr_ .acquire kr_ a w
theorem fcz (a:Addr) (w:World):(callFunc 210 #[.pointer (some a)]).run Tryz.prog w= .ok (.value (.tuple #[])) w:=run_call_marked Tryz.func210 kr_ kr_ kr_ .releaseMerge kr_ a w
theorem e4z (a : Addr) (x : Value) (u : FrameMode) (w : World) (hc : w.cell? a = some x) (hz : w.frozen? a = false) :
  CallsD Tryz.prog 200 #[.pointer (some a), .bool true] u w fun e u' w'=>u'=u/\(e= .returned (.tuple #[])/\w'=w.drew.setCell a (.int .u32 1)):=by
 have hc':w.drew.cell? a=some x:=by go_simp
 have hz':w.drew.frozen? a=false:=by go_simp
 have hst:=run_call_store (P:=Tryz.prog) Tryz.func203 kr_ kr_ kr_ kr_ (k:= .u32) (y:=1) hc' hz'
 go_enter_d Tryz.func200,Tryz.ntmps200
 go_wp2
 go_region_calls
 all_goals (go_end0;exact ⟨rfl,rfl⟩)
theorem eNz (a : Addr) (u : FrameMode) (w : World) (hc : w.cell? a = some (.int .i32 1)) (hz : w.frozen? a = false) :
  CallsD Tryz.prog 199 #[.pointer (some a)] u w fun e u' w'=>u'=u/\(e= .returned (.tuple #[])/\w'=w.setCell a (.int .i32 0)):=by
 have hd:=e7z;have he:=once_enable;have hr:=fcz;have hadd:=run_call_add (P:=Tryz.prog) Tryz.func211 kr_ kr_ kr_ .i32 kr_ (y:= -1) (s:=0) hc hz (by simp [go_sem];rfl);have hcv:=run_convert_to_unsafe (P:=Tryz.prog) (src:=229) (dst:=233) Tryz.underlying229 Tryz.underlying233 kr_ hc
 go_enter_d Tryz.func199,Tryz.ntmps199
 go_wp2
 go_end0
 go_wp2
 go_end0
 exact ⟨rfl,rfl⟩
theorem once_lock_free (a : Addr) (w : World) (hc : w.cell? a = some (.int .i32 0)) (hz : w.frozen? a = false) :
  Calls Tryz.prog 198 #[.pointer (some a)] w fun e w'=>e= .returned (.tuple #[])/\w'=w.setCell a (.int .i32 1):=by
 have hd:=e7z;have he:=once_enable;have ha:=once_acquire;have hcas:=run_call_cas_hit (P:=Tryz.prog) Tryz.func206 kr_ kr_ kr_ .i32 kr_ (y:=1) hc hz;have hc':(w.setCell a (.int .i32 1)).cell? a=some (.int .i32 1):=World.cell?_setCell_same w a _ hc;have hcv:=run_convert_to_unsafe (P:=Tryz.prog) (src:=229) (dst:=233) Tryz.underlying229 Tryz.underlying233 kr_ hc';go_enter Tryz.func198,Tryz.ntmps198;go_wp2
 first|go_end0|(simp only [Exit.inBlock,Exit.then];refine bodyPost_ret (results_none rfl _ _ _) rfl ?_)|refine bodyPost_ret (results_none rfl _ _ _) rfl ?_
 go_wp2
 go_end0
 exact ⟨rfl,rfl⟩
def IsReady (W:World) (g:Nat) (w:World):Prop:= ∃a b:Nat,w.heap[g]?=some (.cells (readyF 8 285 a b) 172 (0,0))/\w.heap[a]?=some (.cells (nums .i64 (expAt 255)).toArray 3 (0,0))/\w.heap[b]?=some (.cells (nums .i64 (logAt 255)).toArray 3 (0,0))/\W.heap.size<=a/\W.heap.size<=b/\BB W w g
theorem once_slow (g pl : Nat) (W : World) (hne : g ≠ pl) (hg : W.heap[g]? = some (.cells (freshF 8 285) 172 (0, 0))) (hp : W.heap[pl]? = some (.cells #[.pointer (some ⟨g, 0, none⟩)] 72 (0, 0))) :
  Calls Tryz.prog 193 #[.pointer (some ⟨g,2,none⟩), .func (.func 179) #[] #[.pointer (some ⟨pl,0,none⟩)]] W fun e w'=>e= .returned (.tuple #[])/\IsReady W g w':=by
 have h2:W.cell? ⟨g,2,none⟩=some (.int .u32 0):=(aez hg 2).trans rfl;have h3:W.cell? ⟨g,3,none⟩=some (.int .i32 0):=(aez hg 3).trans rfl;have f3:=boz hg 3;have f2:=boz hg 2;have hl:=run_call_load (P:=Tryz.prog) Tryz.func197 kr_ kr_ kr_ .u32 kr_ (w:=W.setCell ⟨g,3,none⟩ (.int .i32 1)) (a:=⟨g,2,none⟩) (x:=0) ((World.cell?_setCell_other _ ⟨g,3,none⟩ ⟨g,2,none⟩ _ (by simp)).trans h2);have hg1:(W.setCell ⟨g,3,none⟩ (.int .i32 1)).heap[g]?=some (.cells #[.int .i64 8, .int .u32 285, .int .u32 0, .int .i32 1, .int .u32 0, .slice none 0 0, .slice none 0 0] 172 (0,0)):=cCz hg 3 _ rfl;have hp1:(W.setCell ⟨g,3,none⟩ (.int .i32 1)).heap[pl]?=some (.cells #[.pointer (some ⟨g,0,none⟩)] 72 (0,0)):=byz hp (Ne.symm hne) _;have HC:=Za (gf_ready1.calls g pl _ _ _ _ hne hg1 hp1);have HBB:=Za (BB.set (BB.refl W g) 3 (.int .i32 1));have hnot: ∀(x:Bool) (w:World),(Op.unary .not (.bool x)).run Tryz.prog w= .ok (.bool (!x)) w:=fun _ _=>rfl
 have hsz:(W.setCell ⟨g,3,none⟩ (.int .i32 1)).heap.size=W.heap.size:=by simp
 have hgl:=a4z hg;clear hg hp hg1 hp1;have HSZ:=Za hsz;have HGL:=Za hgl;clear hgl;clear hsz
 go_enter_defers Tryz.func193,Tryz.ntmps193
 go_wp2_with (go_at_call 198;refine (once_lock_free ⟨g,3,none⟩ _ (by go_simp) (by go_simp)).mono ?_;rintro e w' ⟨rfl,rfl⟩)
 generalize hw1:W.setCell ⟨g,3,none⟩ (.int .i32 1)=w1 at *
 go_wp2_with (first|(go_at_call 179;refine HC.out.mono ?_;rintro e w2 ⟨rfl,a,b,k1,k2,k3,k4,k5,k6⟩)|(go_at_call 192;go_in))
 have f2':=boz k1 2;have f3':=boz k1 3;have h2':w2.cell? ⟨g,2,none⟩=some (.int .u32 0):=(aez k1 2).trans rfl;have h3':w2.cell? ⟨g,3,none⟩=some (.int .i32 1):=(aez k1 3).trans rfl;go_wp2;refine leaves_cons (f:=200) (args:= #[.pointer (some ⟨g,2,none⟩), .bool true]) (by simp) (by simp [go_sem]) ?_;refine (e4z ⟨g,2,none⟩ (.int .u32 0) .returning _ h2' (by simp [f2'])).mono ?_;rintro e u' w'' ⟨rfl,rfl,rfl⟩;refine leaves_cons (f:=199) (args:= #[.pointer (some ⟨g,3,none⟩)]) (by simp [settle]) (by simp [go_sem]) ?_;refine (eNz ⟨g,3,none⟩ _ _ ?_ (by simp [f3'])).mono ?_
 ·refine (World.cell?_setCell_other _ ⟨g,2,none⟩ ⟨g,3,none⟩ _ (by simp)).trans ?_;rw [World.cell?_drew];exact h3'
 rintro e u' w'' ⟨rfl,rfl,rfl⟩
 have hfin:IsReady W g ((w2.drew.setCell ⟨g,2,none⟩ (.int .u32 1)).setCell ⟨g,3,none⟩ (.int .i32 0)):=by
  have hga:a≠g:=by rintro rfl;have:=HGL.out;have:=HSZ.out;omega
  have hgb:b≠g:=by rintro rfl;have:=HGL.out;have:=HSZ.out;omega
  have k1':(w2.drew).heap[g]?=_:=k1;exact ⟨a,b,cCz (cCz k1' 2 _ rfl) 3 _ rfl,byz (byz (show w2.drew.heap[a]?=_ from k2) hga _) hga _,byz (byz (show w2.drew.heap[b]?=_ from k3) hgb _) hgb _,by have:=HSZ.out;omega,by have:=HSZ.out;omega,((HBB.out.trans k6).drew.set _ _).set _ _⟩
 simp [Leaves,settle,results,Tryz.results193];exact hfin
theorem once_do_first (g pl : Nat) (W : World) (hne : g ≠ pl) (hg : W.heap[g]? = some (.cells (freshF 8 285) 172 (0, 0))) (hp : W.heap[pl]? = some (.cells #[.pointer (some ⟨g, 0, none⟩)] 72 (0, 0))) :
  Calls Tryz.prog 178 #[.pointer (some ⟨g,2,none⟩), .func (.func 179) #[] #[.pointer (some ⟨pl,0,none⟩)]] W fun e w'=>e= .returned (.tuple #[])/\IsReady W g w':=by
 have h2:W.cell? ⟨g,2,none⟩=some (.int .u32 0):=(aez hg 2).trans rfl;have HC:=Za (once_slow g pl W hne hg hp);have hl:=run_call_load (P:=Tryz.prog) Tryz.func197 kr_ kr_ kr_ .u32 kr_ h2;have hnot: ∀(x:Bool) (w:World),(Op.unary .not (.bool x)).run Tryz.prog w= .ok (.bool (!x)) w:=fun _ _=>rfl
 clear hg hp;go_enter Tryz.func178,Tryz.ntmps178
 go_wp2_with (first|(go_at_call 193;refine HC.out.mono ?_;rintro e w' ⟨rfl,hR⟩)|(go_at_call 192;go_in))
 go_end0
 exact ⟨rfl,hR⟩
theorem once_do_done (a : Addr) (d : Int) (hd : ¬ d = 0) (fv : Value) (w : World) (h0 : w.cell? a = some (.int .u32 d)) (h' : ⟨a.block, a.off, none⟩ = a) :
  Calls Tryz.prog 178 #[.pointer (some a),fv] w fun e w'=>e= .returned (.tuple #[])/\w'=w:=by
 have hl:=run_call_load (P:=Tryz.prog) Tryz.func197 kr_ kr_ kr_ .u32 kr_ h0;have hnot: ∀(x:Bool) (w:World),(Op.unary .not (.bool x)).run Tryz.prog w= .ok (.bool (!x)) w:=fun _ _=>rfl
 have hd':(d !=0)=true:=by simp [hd]
 clear h';go_enter Tryz.func178,Tryz.ntmps178;go_wp2
 go_end0
 exact ⟨rfl,rfl⟩
theorem IsReady.fd {W w:World} {g:Nat} {S:Nat->Prop} (h:IsReady W g w) (hg: ¬S g) (hS: ∀k,S k->k<W.heap.size):Fd w g 8 285 S/\BB W w g:=by
 obtain ⟨a,b,h1,h2,h3,h4,h5,h6⟩:=h;exact ⟨⟨hg, .inr ⟨rfl,rfl,a,b,h1,h2,h3,fun s=>by have:=hS _ s;omega,fun s=>by have:=hS _ s;omega⟩⟩,h6⟩
def IsTab (g:Nat) (w:World):Prop:= ∃a b:Nat,w.heap[g]?=some (.cells (readyF 8 285 a b) 172 (0,0))/\w.heap[a]?=some (.cells (nums .i64 (expAt 255)).toArray 3 (0,0))/\w.heap[b]?=some (.cells (nums .i64 (logAt 255)).toArray 3 (0,0))
theorem gf_ready.calls (g : Nat) (S : Nat -> Prop) (W : World) (hF : Fd W g 8 285 S) (hS : ∀ k, S k -> k < W.heap.size) :
  Calls Tryz.prog 153 #[.pointer (some ⟨g,0,none⟩)] W fun e w'=>e= .returned (.pointer (some ⟨g,2,none⟩))/\IsTab g w'/\Fd w' g 8 285 S/\BB W w' g/\(W.cell? ⟨g,2,none⟩=some (.int .u32 1)->Below W.heap.size W w'):=by
 have hmf: ∀(fn:Fn) (first cap:Array Value) (w:World),(Instr.makeFunc fn first cap).run Tryz.prog w= .ok (.func fn first cap) w:=fun _ _ _ _=>rfl
 have hlt:=hF.lt;have hne:g≠W.heap.size:=by omega
 have HBB:=Za ((BB.refl W g).alloc (.cells #[.pointer (some ⟨g,0,none⟩)] 72));obtain ⟨hgS,h|⟨-, -,a,b,h1,h2,h3,ha,hb⟩⟩:=hF
 ·have HC:=Za (once_do_first g W.heap.size _ hne (bAz h _) (dvz W (.cells #[.pointer (some ⟨g,0,none⟩)] 72)));have h20:W.cell? ⟨g,2,none⟩=some (.int .u32 0):=(aez h 2).trans rfl;clear h;go_enter Tryz.func153,Tryz.ntmps153
  go_wp2_with fail
  refine HC.out.mono ?_;rintro e w' ⟨rfl,hR⟩
  have hc:w'.cell? ⟨W.heap.size,0,none⟩=some (.pointer (some ⟨g,0,none⟩)):=by
   obtain ⟨_,_,_,_,_,_,_,hB⟩:=hR;exact (World.cell?_of_block (hB.block _ (by simp) (Ne.symm hne))).trans ((aez (dvz W _) 0).trans rfl)
  have HR:=Za (Zb (show IsTab g w' by obtain ⟨a,b,h1,h2,h3, -⟩:=hR;exact ⟨a,b,h1,h2,h3⟩) (hR.fd hgS (fun k hk=>by have:=hS k hk;simp;omega)));clear hR;go_wp2;go_ret;exact ⟨rfl,HR.out.1,HR.out.2.1,HBB.out.trans HR.out.2.2,fun h1=>by rw [h20] at h1;injection h1 with h1;injection h1 with _ h1;exact Yf h1 (by decide)⟩
 ·have h0:(W.alloc (.cells #[.pointer (some ⟨g,0,none⟩)] 72)).cell? ⟨g,2,none⟩=some (.int .u32 1):=(aez (bAz h1 _) 2).trans rfl;have HC:=Za (once_do_done ⟨g,2,none⟩ 1 (by decide) (.func (.func 179) #[] #[.pointer (some ⟨W.heap.size,0,none⟩)]) _ h0 rfl);have HR:=Za (Zb (show IsTab g (W.alloc (.cells #[.pointer (some ⟨g,0,none⟩)] 72)) from ⟨a,b,bAz h1 _,bAz h2 _,bAz h3 _⟩) (show Fd (W.alloc (.cells #[.pointer (some ⟨g,0,none⟩)] 72)) g 8 285 S from ⟨hgS, .inr ⟨rfl,rfl,a,b,bAz h1 _,bAz h2 _,bAz h3 _,ha,hb⟩⟩));clear h0 h1 h2 h3;go_enter Tryz.func153,Tryz.ntmps153
  go_wp2_with fail
  refine HC.out.mono ?_;rintro e w' ⟨rfl,rfl⟩;go_wp2;go_ret;exact ⟨rfl,HR.out.1,HR.out.2,HBB.out,fun _=>aoz (Zw _ _) _⟩
theorem exp_cell {w:World} {g:Nat} {t:TypeId} (h:w.heap[g]?=some (.cells (nums .i64 (expAt 255)).toArray t (0,0))) (j:Nat) (hj:j<255):w.cell? ⟨g,j,none⟩=some (.int .i64 (gpN j:Int)):=by
 rw [aez h j, <-exp_at j hj];have hl:j<(expAt 255).length:=by rw [elz];omega
 generalize expAt 255=l at hl;simp [nums,hl,Zm]
theorem log_cell {w:World} {g:Nat} {t:TypeId} (h:w.heap[g]?=some (.cells (nums .i64 (logAt 255)).toArray t (0,0))) (j:Nat) (hj:j<256):w.cell? ⟨g,j,none⟩=some (.int .i64 ((logAt 255).getD j 0)):=by
 rw [aez h j];have hl:j<(logAt 255).length:=by rw [emz];omega
 generalize logAt 255=l at hl;simp [nums,hl,Zm]
theorem gf_Exp.calls (g : Nat) (S : Nat -> Prop) (n : Nat) (W : World) (hn : n <= 1000000) (hF : Fd W g 8 285 S) (hS : ∀ k, S k -> k < W.heap.size) :
  Calls Tryz.prog 154 #[.pointer (some ⟨g,0,none⟩), .int .i64 (n:Int)] W fun e w'=>e= .returned (.int .i64 (gpN (n % 255):Int))/\Fd w' g 8 285 S/\BB W w' g/\(W.cell? ⟨g,2,none⟩=some (.int .u32 1)->Below W.heap.size W w'):=by
 have HF:=Za hF;have HS:=Za hS;have hc0:=hF.bits;clear hF hS;obtain ⟨m,hm⟩: ∃m,n % 255=m:=⟨_,rfl⟩;have hlt:m<255:=by omega
 have e1:Int.tmod (n:Int) 255=(m:Int):=by rw [Int.tmod_eq_emod_of_nonneg (by omega)];omega
 have e1':(n:Int) % 255=(m:Int):=by omega
 have e3':((m:Int)+255) % 255=(m:Int):=by omega
 have e2:IntKind.i64.wrap ((m:Int)+255)=(m:Int)+255:=by rw [IntKind.wrap_i64];omega
 have e3:Int.tmod ((m:Int)+255) 255=(m:Int):=by rw [Int.tmod_eq_emod_of_nonneg (by omega)];omega
 have i1:(0:Int)<=(m:Int):=by omega
 have i2:(m:Int)<256:=by omega
 rw [hm];have HM:=Za hm;clear hm;go_enter Tryz.func154,Tryz.ntmps154
 go_wp2_with (go_at_call 150;refine (gf_Size8 g _ hc0).mono ?_;rintro e w9 ⟨rfl,m9,rfl⟩)
 go_region_with (first|(go_at_call 153;refine (gf_ready.calls g S _ (HF.out.drewN _) HS.out).mono ?_;rintro e w1 ⟨rfl,⟨a,b,k1,k2,k3⟩,k4,k5,k6⟩;have c5:w1.cell? ⟨g,5,none⟩=some (.slice (some ⟨a,0,none⟩) 256 256):=(aez k1 5).trans rfl;have cm:=exp_cell k2 m hlt;have K4:=Za k4;have K5:=Za k5;have K6:=Za k6;clear k1 k2 k3 k4 k5 k6))
 all_goals
  go_wp2;go_ret;exact ⟨rfl,K4.out,⟨K5.out.os,K5.out.tape,K5.out.output,K5.out.size,K5.out.block⟩,fun h=>by have hB:=K6.out (by simpa using h);exact ⟨hB.os,hB.tape,hB.output,hB.size,hB.block⟩⟩
theorem gf_Bits.calls (g : Nat) (wb p : Int) (S : Nat -> Prop) (W : World) (hF : Fd W g wb p S) :
  Calls Tryz.prog 155 #[.pointer (some ⟨g,0,none⟩)] W fun e w'=>e= .returned (.int .i64 wb)/\Drawn0 W w':=by
 have hc:=hF.bits;clear hF;go_enter Tryz.func155,Tryz.ntmps155;go_wp2;go_ret;exact ⟨rfl,Drawn0.refl _⟩
theorem egz.calls (g : Nat) (wb p : Int) (S : Nat -> Prop) (W : World) (hF : Fd W g wb p S) (hw : wb = 8 \/ wb = 16) :
  Calls Tryz.prog 150 #[.pointer (some ⟨g,0,none⟩)] W fun e w'=>e= .returned (.int .i64 (fsize wb))/\Drawn0 W w':=by
 have hc:=hF.bits;clear hF;rcases hw with rfl|rfl
 all_goals
  go_enter Tryz.func150,Tryz.ntmps150;go_wp2;go_ret;exact ⟨by simp [fsize],Drawn0.refl _⟩
theorem gf_in.calls (g : Nat) (wb p : Int) (S : Nat -> Prop) (A : Option Addr) (c : Nat) (l : List Int) (W : World) (hF : Fd W g wb p S) (hw : wb = 8 \/ wb = 16) (hr : Kd.C (Kd.int .i64) W A l.length l) (hl : l.length <= 1000000) :
  Calls Tryz.prog 151 #[.pointer (some ⟨g,0,none⟩), .slice A l.length c] W fun e w'=>e= .returned (.bool (allIn wb l))/\Drawn0 W w':=by
 have HF:=Za hF;have HR:=Za hr;clear hF hr;go_enter Tryz.func151,Tryz.ntmps151;go_wp2
 go_loopw [9] (fun i wr=> ∃k m:Nat,k<=l.length/\i= .int .i64 k/\wr=W.drewN m/\allIn wb l=allIn wb (l.drop k))
  (fun i _=>l.length - (intOf i).toNat)
 case atStart=>exact ⟨0,0,Nat.zero_le _,rfl,rfl,by rw [List.drop_zero]⟩
 obtain ⟨k,m,hk,rfl,rfl,hall⟩:=hrel;by_cases hlt:k<l.length
 ·have hd : allIn wb (l.drop k) = ((decide (0 <= rd l (k : Int)) && decide (rd l (k : Int) < fsize wb)) && allIn wb (l.drop (k + 1))) := by
   rw [List.drop_eq_getElem_cons hlt];simp [allIn,rd,Zm,hlt, -List.getElem_cons_drop]
  rw [hd] at hall;clear hd;obtain ⟨ad,e1,hx⟩:=Kd.bqz (Kd.bzz HR.out m) (k:Int) (by omega) (by omega);cases e1
  simp only [Zu] at hx;generalize rd l (k:Int)=z at hx hall;have HALL:=Za hall;clear hall;by_cases hz:z<0
  ·have hz1:decide (z<0)=true:=Zd hz;go_wp2;go_ret;refine ⟨?_,Drawn0.step (Drawn0.refl _) _⟩;rw [HALL.out,Ze (by omega)];rfl
  ·have hz1:decide (z<0)=false:=Ze hz;by_cases hz2:fsize wb<=z
   ·have hz3:decide (fsize wb<=z)=true:=Zd hz2
    go_wp2_with (go_at_call 150;refine (egz.calls g wb p S _ (HF.out.drewN m) hw).mono ?_;rintro e w9 ⟨rfl,m9,rfl⟩)
    go_ret;refine ⟨?_,dn_⟩;rw [HALL.out,Ze (show¬z<fsize wb by omega),Bool.and_false];rfl
   ·have hz3:decide (fsize wb<=z)=false:=Ze hz2
    go_wp2_with (go_at_call 150;refine (egz.calls g wb p S _ (HF.out.drewN m) hw).mono ?_;rintro e w9 ⟨rfl,m9,rfl⟩)
    go_roundw
    case rel=>exact ⟨k+1,m+m9,by omega,by go_num,by simp [World.drewN_drewN],by rw [HALL.out,Zd (show 0<=z by omega),Zd (show z<fsize wb by omega)];rfl⟩
    case measure=>simp [intOf];omega
 ·have:k=l.length:=by omega
  subst this;have HALL:=Za hall;go_wp2;go_ret;refine ⟨?_,Drawn0.step (Drawn0.refl _) _⟩;rw [HALL.out,List.drop_length];rfl
def clr1 (q d i a:Nat):Nat:=if a.testBit i then a^^^(q*2^(i - d)) else a
def redN (q d:Nat):Nat->Nat->Nat
 |0,a=>a
 |n+1,a=>redN q d n (clr1 q d (d+n) a)
def cmN (a b:Nat):Nat->Nat
 |0=>0
 |i+1=>if b.testBit i then cmN a b i^^^(a*2^i) else cmN a b i
theorem xor_mid (a b s:Nat):a^^^b=(a^^^s)^^^(b^^^s):=by
 rw [Nat.xor_assoc,Nat.xor_comm b s, <-Nat.xor_assoc s,Nat.xor_self,Nat.zero_xor]
theorem xor_right (a b s:Nat):(a^^^b)^^^s=(a^^^s)^^^b:=by rw [Nat.xor_assoc,Nat.xor_assoc,Nat.xor_comm b]
theorem clr1_xor (q d i a b:Nat):clr1 q d i (a^^^b)=clr1 q d i a^^^clr1 q d i b:=by
 unfold clr1;rw [Nat.testBit_xor];cases a.testBit i<;>cases b.testBit i<;>simp only [Bool.false_eq_true,if_false,if_true,Bool.xor_false,Bool.xor_true,Bool.false_xor,Bool.not_true,Bool.not_false,Bool.xor_self]
 ·exact Nat.xor_assoc _ _ _
 ·exact xor_right _ _ _
 ·exact xor_mid _ _ _
theorem redN_xor (q d:Nat): ∀(n a b:Nat),redN q d n (a^^^b)=redN q d n a^^^redN q d n b
 |0,_,_=>rfl
 |n+1,a,b=>by unfold redN;rw [clr1_xor,redN_xor q d n]
theorem mul_pow_xor (a b i:Nat):(a^^^b)*2^i=(a*2^i)^^^(b*2^i):=by
 rw [<-Nat.shiftLeft_eq, <-Nat.shiftLeft_eq, <-Nat.shiftLeft_eq];apply Nat.eq_of_testBit_eq
 intro j;simp only [Nat.testBit_shiftLeft,Nat.testBit_xor];cases decide (j>=i)<;>simp
theorem cmN_left (a c b:Nat): ∀n,cmN (a^^^c) b n=cmN a b n^^^cmN c b n
 |0=>by simp [cmN]
 |n+1=>by
  unfold cmN;split
  ·rw [cmN_left a c b n,mul_pow_xor,Nat.xor_assoc,Nat.xor_assoc];congr 1
   rw [<-Nat.xor_assoc, <-Nat.xor_assoc,Nat.xor_comm (cmN c b n)]
  ·exact cmN_left a c b n
theorem cmN_right (a b c:Nat): ∀n,cmN a (b^^^c) n=cmN a b n^^^cmN a c n
 |0=>by simp [cmN]
 |n+1=>by
  unfold cmN;rw [Nat.testBit_xor,cmN_right a b c n];cases b.testBit n<;>cases c.testBit n<;>simp only [Bool.false_eq_true,if_false,if_true,Bool.xor_false,Bool.xor_true,Bool.false_xor,Bool.not_true,Bool.not_false,Bool.xor_self]
  ·exact Nat.xor_assoc _ _ _
  ·exact xor_right _ _ _
  ·exact xor_mid _ _ _
theorem cmN_more (a b n:Nat) (hb:b<2^n): ∀k,cmN a b (n+k)=cmN a b n
 |0=>rfl
 |k+1=>by
  have e:cmN a b (n+k+1)=if b.testBit (n+k) then cmN a b (n+k)^^^(a*2^(n+k)) else cmN a b (n+k):=rfl
  show cmN a b (n+k+1)=_;rw [e,Nat.testBit_lt_two_pow (Zp hb (Nat.pow_le_pow_right (by omega) (by omega))),Yb (by decide)];exact cmN_more a b n hb k
theorem cNz {a m i:Nat} (ha:a<2^m):a*2^i<2^(m+i):=by
 rw [Nat.pow_add];exact Nat.mul_lt_mul_of_pos_right ha (Nat.pow_pos (by omega))
theorem cmN_lt (a b m:Nat) (ha:a<2^m): ∀n,cmN a b n<2^(m+n)
 |0=>by unfold cmN;exact Nat.pow_pos (by omega)
 |n+1=>by
  have h1:cmN a b n<2^(m+(n+1)):=Zp (cmN_lt a b m ha n) (Nat.pow_le_pow_right (by omega) (by omega));have h2:a*2^n<2^(m+(n+1)):=Zp (cNz ha) (Nat.pow_le_pow_right (by omega) (by omega));unfold cmN;split
  ·exact Nat.xor_lt_two_pow h1 h2
  ·exact h1
section
variable {q d : Nat} (hq : q < 2 ^ (d + 1)) (hqd : q.testBit d = true)
include hq hqd
theorem clr1_lt (i a:Nat) (hi:d<=i) (ha:a<2^(i+1)):clr1 q d i a<2^i:=by
 have hs:q*2^(i - d)<2^(i+1):=by
  have:=cNz (i:=i - d) hq;rwa [show d+1+(i - d)=i+1 by omega] at this
 have hb:(q*2^(i - d)).testBit i=true:=by
  rw [<-Nat.shiftLeft_eq,Nat.testBit_shiftLeft,show i - (i - d)=d by omega,hqd];simp
 unfold clr1;split
 ·rename_i h
  rw [bLz (Nat.xor_lt_two_pow ha hs),Nat.testBit_xor,h,hb];rfl
 ·rename_i h
  rw [bLz ha];simpa using h
omit hq hqd in
theorem clr1_small (i a:Nat) (ha:a<2^i):clr1 q d i a=a:=by
 unfold clr1;rw [Nat.testBit_lt_two_pow ha];rfl
omit hq hqd in
theorem exz (n a:Nat) (ha:a<2^(d+n)): ∀k,redN q d (n+k) a=redN q d n a
 |0=>rfl
 |k+1=>by
  show redN q d (n+k) (clr1 q d (d+(n+k)) a)=_;rw [clr1_small _ _ (Zp ha (Nat.pow_le_pow_right (by omega) (by omega)))];exact exz n a ha k
end
theorem cm_gm {m q : Nat} (F : Gf m q) (hb : ∀ i, i < m + 1 -> ∀ j, j < m + 1 -> redN q (m + 1) m (cmN (2 ^ i) (2 ^ j) (m + 1)) = gm m q (2 ^ i) (2 ^ j)) (a b : Nat) (ha : a < 2 ^ (m + 1)) (hb' : b < 2 ^ (m + 1)) :
  redN q (m+1) m (cmN a b (m+1))=gm m q a b:=by
 refine dtz (f:=fun a=>redN q (m+1) m (cmN a b (m+1))) (g:=fun a=>gm m q a b) (m+1) (fun x y _ _=>by show redN _ _ _ (cmN (x^^^y) b _)=_;rw [cmN_left,redN_xor]) (fun _ _ h1 h2=>F.dpz h1 h2) (fun i hi=> ?_) a ha;exact dtz (f:=fun b=>redN q (m+1) m (cmN (2^i) b (m+1))) (g:=fun b=>gm m q (2^i) b) (m+1) (fun x y _ _=>by show redN _ _ _ (cmN _ (x^^^y) _)=_;rw [cmN_right,redN_xor]) (fun _ _ _ _=>Gf.duz _ _ _) (fun j hj=>hb i hi j hj) b hb'
theorem cm_gm8 (a b:Nat) (ha:a<256) (hb:b<256):redN 285 8 7 (cmN a b 8)=gm 7 285 a b:=cm_gm (m:=7) gf8.toGf (by decide+kernel) a b ha hb
theorem cm_gm16 (a b:Nat) (ha:a<65536) (hb:b<65536):redN 69643 16 15 (cmN a b 16)=gm 15 69643 a b:=cm_gm (m:=15) gf16.toGf (by decide+kernel) a b ha hb
theorem ofIntU64 (a:Nat) (ha:a<18446744073709551616):(BitVec.ofInt 64 (a:Int)).toNat=a:=by
 rw [BitVec.toNat_ofInt];omega
theorem u64_xor (a b:Nat) (ha:a<2^64) (hb:b<2^64):Go.bits .xor .u64 (a:Int) (b:Int)=((a^^^b:Nat):Int):=by
 have h:a^^^b<2^64:=Nat.xor_lt_two_pow ha hb;show IntKind.u64.wrap ((BitVec.ofInt 64 (a:Int)^^^BitVec.ofInt 64 (b:Int)).toNat:Int)=_;rw [BitVec.toNat_xor,ofIntU64 a (by omega),ofIntU64 b (by omega),IntKind.wrap_u64];omega
theorem ofIntU32 (a:Nat) (ha:a<4294967296):(BitVec.ofInt 32 (a:Int)).toNat=a:=by
 rw [BitVec.toNat_ofInt];omega
theorem u32_and1 (a:Nat) (ha:a<2^32):Go.bits .and .u32 (a:Int) 1=((a % 2:Nat):Int):=by
 show IntKind.u32.wrap ((BitVec.ofInt 32 (a:Int)&&&BitVec.ofInt 32 ((1:Nat):Int)).toNat:Int)=_;rw [BitVec.toNat_and,ofIntU32 a (by omega),ofIntU32 1 (by omega),Nat.and_one_is_mod,IntKind.wrap_u32];omega
theorem u64_and1 (a:Nat) (ha:a<2^64):Go.bits .and .u64 (a:Int) 1=((a % 2:Nat):Int):=by
 show IntKind.u64.wrap ((BitVec.ofInt 64 (a:Int)&&&BitVec.ofInt 64 ((1:Nat):Int)).toNat:Int)=_;rw [BitVec.toNat_and,ofIntU64 a (by omega),ofIntU64 1 (by omega),Nat.and_one_is_mod,IntKind.wrap_u64];omega
theorem shr_nat {k:IntKind} (a i:Nat) (hi:i<=k.bits):shr k (a:Int) (i:Int)=((a / 2^i:Nat):Int):=by
 unfold shr;rw [Zu,Nat.min_eq_left hi];simp
theorem c2z (a i:Nat):(a.testBit i=true)↔(a / 2^i % 2=1):=by
 rw [Nat.testBit_eq_decide_div_mod_eq];simp
theorem shl64_nat (a i:Nat) (h:a*2^i<2^64) (hi:i<=64):shl .u64 (a:Int) (i:Int)=((a*2^i:Nat):Int):=by
 unfold shl;rw [Zu,show IntKind.u64.bits=64 from rfl,Nat.min_eq_left hi,IntKind.wrap_u64];have e:((a:Int)*2^i)=((a*2^i:Nat):Int):=by simp
 rw [e];omega
theorem cKz {x:Int} (h0: -1<=x) (h1:x<1000):wrap64 x=x:=by unfold wrap64;omega
theorem poly_at_cm (a b:Nat) (ha:a<2^31) (hb:b<2^31): ∀i:Nat,i<=32->b1z.at_ (a:Int) (b:Int) i=((cmN a b i:Nat):Int)
 |0,_=>rfl
 |i+1,hi=>by
  have h1:a*2^i<2^64:=Zp (cNz ha) (Nat.pow_le_pow_right (by omega) (by omega));have h2:cmN a b i<2^64:=Zp (cmN_lt a b 31 ha i) (Nat.pow_le_pow_right (by omega) (by omega));unfold b1z.at_ cmN;rw [poly_at_cm a b ha hb i (by omega),shr_nat (k:= .u32) b i (by show i<=32;omega),u32_and1 _ (by have:=Nat.div_le_self b (2^i);omega),IntKind.wrap_u64,show ((a:Int) % 18446744073709551616)=(a:Int) by omega,shl64_nat a i h1 (by omega),u64_xor _ _ h2 h1];by_cases h:b.testBit i=true
  ·rw [Ya h,Ya (by rw [(c2z b i).1 h];rfl)]
  ·rw [Yb h,Yb (fun e=>h ((c2z b i).2 (by omega)))]
theorem bitLen_spec: ∀(f x:Nat),x<2^f->Lib.bitLenAux f x<=f/\x<2^Lib.bitLenAux f x/\(x≠0->2^(Lib.bitLenAux f x)<=2*x)
 |0,x,h=>by
  have:x=0:=by simpa using h
  subst this;exact ⟨Zv _,by simp [Lib.bitLenAux],fun h=>Yf rfl h⟩
 |f+1,x,h=>by
  unfold Lib.bitLenAux;by_cases h0:x=0
  ·rw [Ya h0,h0];exact ⟨by omega,by simp,fun h=>Yf rfl h⟩
  ·rw [Yb h0];obtain ⟨i1,i2,i3⟩:=bitLen_spec f (x / 2) (by rw [Nat.pow_succ] at h;omega);refine ⟨by omega,?_,fun _=> ?_⟩
   ·rw [Nat.add_comm,Nat.pow_succ];omega
   ·rw [Nat.add_comm,Nat.pow_succ];by_cases h2:x / 2=0
    ·rw [h2];have:Lib.bitLenAux f 0=0:=by cases f<;>simp [Lib.bitLenAux]
     rw [this];omega
    ·have:=i3 h2;omega
theorem deg_f (x:Nat) (hx:x<2^64):b6z.f (x:Int)=some ((Lib.bitLen x:Int) - 1):=by
 have h:=bitLen_spec 64 x hx;unfold b6z.f bits_Len64.f;rw [Ya (by omega),Ya (by omega)];simp only [Zl,Zu];rw [cKz (by omega) (by have:=h.1;show (Lib.bitLen x:Int) - 1<1000;unfold Lib.bitLen;omega)]
theorem mod_loop (q d:Nat) (hq:q<2^(d+1)) (hqd:q.testBit d=true) (hd:d<=16): ∀(n k a:Nat),n<k->d+n<=40->a<2^(d+n)->buz.l0 k (a:Int) (q:Int) (d:Int) ((d:Int)+(n:Int) - 1)=some ((redN q d n a:Nat):Int)
 |0,k,a,hk,_,ha=>by
  obtain ⟨k,rfl⟩: ∃m,k=m+1:=⟨k - 1,by omega⟩;unfold buz.l0 redN;rw [Yb (by omega)];have:a<2^16:=Zp ha (Nat.pow_le_pow_right (by omega) (by omega));rw [show ((a:Int) % 4294967296)=(a:Int) by omega]
 |n+1,k,a,hk,hn,ha=>by
  obtain ⟨k,rfl⟩: ∃m,k=m+1:=⟨k - 1,by omega⟩;have e1:(d:Int)+((n+1:Nat):Int) - 1=((d+n:Nat):Int):=by omega
  have ha40:a<2^40:=Zp ha (Nat.pow_le_pow_right (by omega) (by omega));have e2:wrap64 (((d+n:Nat):Int) - 1)=(d:Int)+(n:Int) - 1:=by rw [cKz (by omega) (by omega)];omega
  have e3:wrap64 (((d+n:Nat):Int) - (d:Int))=((n:Nat):Int):=by rw [cKz (by omega) (by omega)];omega
  have hs:q*2^n<2^40:=Zp (cNz hq) (Nat.pow_le_pow_right (by omega) (by omega));have hq17:q<2^17:=Zp hq (Nat.pow_le_pow_right (by omega) (by omega));have hc:=clr1_lt hq hqd (d+n) a (by omega) ha;unfold buz.l0 redN;rw [e1,Ya (by omega),Ya (by omega),shr_nat (k:= .u64) a (d+n) (by show d+n<=64;omega),u64_and1 _ (by have:=Nat.div_le_self a (2^(d+n));omega),e2,e3,Ya (show (0:Int)<=((n:Nat):Int) by omega),IntKind.wrap_u64,show ((q:Int) % 18446744073709551616)=(q:Int) by omega,shl64_nat q n (by omega) (by omega),u64_xor _ _ (by omega) (by omega)];unfold clr1 at hc|-;rw [show d+n - d=n by omega] at hc|-;by_cases h:a.testBit (d+n)=true
  ·rw [Ya h] at hc|-;rw [Ya (by rw [(c2z a (d+n)).1 h];rfl)];exact mod_loop q d hq hqd hd n k _ (by omega) (by omega) hc
  ·rw [Yb h] at hc|-;rw [Yb (fun e=>h ((c2z a (d+n)).2 (by omega)))];exact mod_loop q d hq hqd hd n k _ (by omega) (by omega) hc
theorem mod_f (q d:Nat) (hq:q<2^(d+1)) (hqd:q.testBit d=true) (hd:d<=16) (n k a:Nat) (hk:40<=k) (hn:d+n<=32) (ha:a<2^(d+n)):buz.f k (a:Int) (q:Int)=some ((redN q d n a:Nat):Int):=by
 have hq17:q<2^17:=Zp hq (Nat.pow_le_pow_right (by omega) (by omega));have hq0:q≠0:=fun e=>by rw [e] at hqd;simp at hqd
 have ha32:a<2^32:=Zp ha (Nat.pow_le_pow_right (by omega) (by omega));obtain ⟨b1,b2,b3⟩:=bitLen_spec 64 q (by omega);have b3:=b3 hq0
 have hbl:Lib.bitLenAux 64 q=d+1:=by
  have hge:2^d<=q:=Nat.ge_two_pow_of_testBit hqd;have l1:d<Lib.bitLenAux 64 q:=(Nat.pow_lt_pow_iff_right (show 1<2 by omega)).1 (Nat.lt_of_le_of_lt hge b2);have l2:Lib.bitLenAux 64 q<d+2:=(Nat.pow_lt_pow_iff_right (show 1<2 by omega)).1 (by rw [Nat.pow_succ 2 (d+1)];omega);omega
 unfold buz.f;rw [Yb (by omega),IntKind.wrap_u64,show ((q:Int) % 18446744073709551616)=(q:Int) by omega,deg_f q (by omega),deg_f a (by omega)];simp only [Zl];rw [show Lib.bitLen q=d+1 from hbl,show (((d+1:Nat):Int) - 1)=(d:Int) by omega];obtain ⟨c1,c2,c3⟩:=bitLen_spec 64 a (by omega);obtain ⟨L,hL⟩: ∃L,Lib.bitLen a=L:=⟨_,rfl⟩;have hL':Lib.bitLenAux 64 a=L:=hL;rw [hL'] at c1 c2 c3;rw [hL];by_cases hld:d<=L
 ·have hLn : L <= d + n := by
   by_cases h0:a=0
   ·rw [h0] at hL';have:L=0:=by rw [<-hL'];decide
    omega
   ·have h3:=c3 h0;have:L<d+n+1:=(Nat.pow_lt_pow_iff_right (show 1<2 by omega)).1 (by rw [Nat.pow_succ];omega);omega
  obtain ⟨j,rfl⟩: ∃j,L=d+j:=⟨L - d,by omega⟩;rw [show (((d+j:Nat):Int) - 1)=(d:Int)+(j:Int) - 1 by omega,mod_loop q d hq hqd hd j k a (by omega) (by omega) c2];obtain ⟨i,rfl⟩: ∃i,n=j+i:=⟨n - j,by omega⟩;rw [exz j a c2 i]
 ·have had:a<2^(d+0):=Zp c2 (Nat.pow_le_pow_right (by omega) (by omega))
  have hr:redN q d n a=a:=by
   have:=exz (q:=q) 0 a had n;rw [Nat.zero_add] at this;exact this
  rw [hr];obtain ⟨k,rfl⟩: ∃m,k=m+1:=⟨k - 1,by omega⟩;unfold buz.l0;rw [Yb (by omega),show ((a:Int) % 4294967296)=(a:Int) by omega]
theorem mul_f (a b:Nat) (n:Nat) (ha:a<2^31) (hb:b<2^n) (hn:n<=31):b1z.f (a:Int) (b:Int)=some ((cmN a b n:Nat):Int):=by
 have hb31:b<2^31:=Zp hb (Nat.pow_le_pow_right (by omega) hn);obtain ⟨c1,c2,c3⟩:=bitLen_spec 64 b (by omega);obtain ⟨L,hL⟩: ∃L,Lib.bitLen b=L:=⟨_,rfl⟩;have hL':Lib.bitLenAux 64 b=L:=hL;rw [hL'] at c1 c2 c3
 have hLn:L<=n:=by
  by_cases h0:b=0
  ·rw [h0] at hL';have:L=0:=by rw [<-hL'];decide
   omega
  ·have h3:=c3 h0;have:L<n+1:=(Nat.pow_lt_pow_iff_right (show 1<2 by omega)).1 (by rw [Nat.pow_succ];omega);omega
 unfold b1z.f bits_Len32.f;rw [Ya (by omega),Ya (by omega)];simp only [Zl,Zu];rw [hL,Ya (by omega),Ya (by omega),poly_at_cm a b ha hb31 L (by omega)];obtain ⟨i,rfl⟩: ∃i,n=L+i:=⟨n - L,by omega⟩;rw [cmN_more a b L c2 i]
theorem poly_mulmod16 (a b:Nat) (ha:a<65536) (hb:b<65536):bOz.f 40 (a:Int) (b:Int) 69643=some ((gm 15 69643 a b:Nat):Int):=by
 unfold bOz.f;rw [mul_f a b 16 (by omega) (by omega) (by omega)];simp only [Zl];have hc:cmN a b 16<2^32:=cmN_lt a b 16 (by omega) 16;rw [show (69643:Int)=((69643:Nat):Int) from rfl,mod_f 69643 16 (by decide) (by decide) (by omega) 16 40 _ (by omega) (by omega) hc]
 have hc':cmN a b 16<2^(16+15):=by
  have h: ∀n,cmN a b (n+1)<2^(16+n):=by
   intro n;have h1:cmN a b n<2^(16+n):=cmN_lt a b 16 (by omega) n;have h2:a*2^n<2^(16+n):=cNz (by omega);unfold cmN;split
   ·exact Nat.xor_lt_two_pow h1 h2
   ·exact h1
  exact h 15
 simp only [Zl];rw [exz (n:=15) (k:=1) _ hc',cm_gm16 a b ha hb]
end Go.Proofs.Xc
end
section
namespace Go.Proofs.Xc
open Go.RowKit Go.Proofs.Pw Go.Proofs.Pl Go.Proofs.Pm
attribute [local go_sem] baz bbz bmz bnz a2z a3z bcz bdz
theorem C_nums {w:World} {g:Nat} {t:TypeId} {xs:List Int} (h:w.heap[g]?=some (.cells (nums .i64 xs).toArray t (0,0))) (hl:xs.length<=9223372036854775807):Kd.C (Kd.int .i64) w (some ⟨g,0,none⟩) xs.length xs:=by
 refine ⟨rfl,hl,fun _=>⟨_,rfl,fun j p hp=>⟨[.int .i64 p],rfl,rfl,fun i u hu=> ?_⟩⟩⟩;obtain ⟨hj,rfl⟩:=Zk hp
 cases i with
 |succ i=>simp at hu
 |zero=>
  obtain rfl:Value.int .i64 xs[j] =u:=by simpa using hu
  have e:(⟨g,0,none⟩:Addr).add (j*(Kd.int .i64).sz+0)=⟨g,j,none⟩:=by
   show (⟨g,0,none⟩:Addr).add (j*1+0)=_;unfold Addr.add;split<;>simp_all
  rw [e,aez h j];simp [nums,hj]
theorem eyz (wb a b:Int):allIn wb [a,b] =(inF wb a&&inF wb b):=by simp [allIn,inF]
theorem allIn_one (wb a:Int):allIn wb [a] =inF wb a:=by simp [allIn,inF]
def fpoly (wb:Int):Int:=if wb=8 then 285 else 69643
theorem cAz.out (g : Nat) (S : Nat -> Prop) (wb p a b : Int) (W : World) (hw : wb = 8 \/ wb = 16) (hF : Fd W g wb p S) (h : (inF wb a && inF wb b) = false) :
  Calls Tryz.prog 103 #[.pointer (some ⟨g,0,none⟩), .int .i64 a, .int .i64 b] W fun e w'=>e= .returned (.int .i64 (gmul wb a b))/\Fd w' g wb p S/\BB W w' g:=by
 rw [gmul_out h];have HC:=Za (gf_in.calls g wb p S (some ⟨W.heap.size,0,none⟩) 2 [a,b] _ (hF.alloc (.cells #[.int .i64 a, .int .i64 b] 3)) hw (C_nums (t:=3) (heap_alloc_new _ _) (by simp)) (by simp));rw [eyz,h] at HC;have HF:=Za hF;clear hF h;go_enter Tryz.func103,Tryz.ntmps103
 go_wp2_with (first|(go_at_call 151;refine HC.out.mono ?_;rintro e w9 ⟨rfl,m9,rfl⟩))
 go_ret;exact ⟨rfl,(HF.out.alloc _).drewN _,((BB.refl _ _).alloc _).drewN _⟩
theorem cAz.zero (g : Nat) (S : Nat -> Prop) (wb p a b : Int) (W : World) (hw : wb = 8 \/ wb = 16) (hF : Fd W g wb p S) (h : (inF wb a && inF wb b) = true) (h0 : a = 0 \/ (a ≠ 0 /\ b = 0)) :
  Calls Tryz.prog 103 #[.pointer (some ⟨g,0,none⟩), .int .i64 a, .int .i64 b] W fun e w'=>e= .returned (.int .i64 (gmul wb a b))/\Fd w' g wb p S/\BB W w' g:=by
 have HC:=Za (gf_in.calls g wb p S (some ⟨W.heap.size,0,none⟩) 2 [a,b] _ (hF.alloc (.cells #[.int .i64 a, .int .i64 b] 3)) hw (C_nums (t:=3) (heap_alloc_new _ _) (by simp)) (by simp));rw [eyz,h] at HC;have HF:=Za hF;clear hF h;rcases h0 with rfl|⟨ha,rfl⟩
 ·rw [dPz];go_enter Tryz.func103,Tryz.ntmps103
  go_wp2_with (first|(go_at_call 151;refine HC.out.mono ?_;rintro e w9 ⟨rfl,m9,rfl⟩))
  go_ret;exact ⟨rfl,(HF.out.alloc _).drewN _,((BB.refl _ _).alloc _).drewN _⟩
 ·rw [ewz];have hb:(a==0)=false:=beq_eq_false_iff_ne.2 ha;clear ha;go_enter Tryz.func103,Tryz.ntmps103
  go_wp2_with (first|(go_at_call 151;refine HC.out.mono ?_;rintro e w9 ⟨rfl,m9,rfl⟩))
  go_ret;exact ⟨rfl,(HF.out.alloc _).drewN _,((BB.refl _ _).alloc _).drewN _⟩
theorem cAz.in16 (g : Nat) (S : Nat -> Prop) (a b : Int) (W : World) (hF : Fd W g 16 69643 S) (ha : 0 < a) (ha' : a < 65536) (hb : 0 < b) (hb' : b < 65536) :
  Calls Tryz.prog 103 #[.pointer (some ⟨g,0,none⟩), .int .i64 a, .int .i64 b] W fun e w'=>e= .returned (.int .i64 (gmul 16 a b))/\Fd w' g 16 69643 S/\BB W w' g:=by
 have hin:(inF 16 a&&inF 16 b)=true:=by simp [inF,fsize];omega
 have HC:=Za (gf_in.calls g 16 69643 S (some ⟨W.heap.size,0,none⟩) 2 [a,b] _ (hF.alloc (.cells #[.int .i64 a, .int .i64 b] 3)) (.inr rfl) (C_nums (t:=3) (heap_alloc_new _ _) (by simp)) (by simp));rw [eyz,hin] at HC;have hm:=poly_mulmod16 a.toNat b.toNat (by omega) (by omega);rw [Int.toNat_of_nonneg (by omega),Int.toNat_of_nonneg (by omega)] at hm;have hg:gmul 16 a b=((gm 15 69643 a.toNat b.toNat:Nat):Int):=by simp [gmul,hin,gmN]
 have hlt:gm 15 69643 a.toNat b.toNat<2^(15+1):=gf16.toGf.lt (by omega);rw [hg];generalize gm 15 69643 a.toNat b.toNat=q at hm hlt;have hlt':(q:Int)<65536:=by omega
 have HM:=Za hm;have HF:=Za (hF.alloc (.cells #[.int .i64 a, .int .i64 b] 3));have z1:(a==0)=false:=beq_eq_false_iff_ne.2 (by omega);have z2:(b==0)=false:=beq_eq_false_iff_ne.2 (by omega);have c0:=hF.bits;have c1:=hF.poly;have hl:=hF.lt;have c0':(W.alloc (.cells #[.int .i64 a, .int .i64 b] 3)).cell? ⟨g,0,none⟩=some (.int .i64 16):=(World.cell?_alloc_past _ _ _ hl).trans c0;have c1':(W.alloc (.cells #[.int .i64 a, .int .i64 b] 3)).cell? ⟨g,1,none⟩=some (.int .u32 69643):=(World.cell?_alloc_past _ _ _ hl).trans c1;clear hF hin hm hg hlt;go_enter Tryz.func103,Tryz.ntmps103
 go_wp2_with (first|(go_at_call 151;refine HC.out.mono ?_;rintro e w9 ⟨rfl,m9,rfl⟩)|(go_at_call 152;refine (bOz.calls 40 _ _ _ _ _ HM.out).mono ?_;rintro e w9 ⟨rfl,hB⟩))
 go_ret;exact ⟨rfl,(HF.out.drewN _).below hB,(((BB.refl _ _).alloc _).drewN _).trans (BB.of_below hB _)⟩
theorem cAz.in8 (g : Nat) (S : Nat -> Prop) (a b : Int) (W : World) (hF : Fd W g 8 285 S) (hS : ∀ k, S k -> k < W.heap.size) (ha : 0 < a) (ha' : a < 256) (hb : 0 < b) (hb' : b < 256) :
  Calls Tryz.prog 103 #[.pointer (some ⟨g,0,none⟩), .int .i64 a, .int .i64 b] W fun e w'=>e= .returned (.int .i64 (gmul 8 a b))/\Fd w' g 8 285 S/\BB W w' g:=by
 have hin:(inF 8 a&&inF 8 b)=true:=by simp [inF,fsize];omega
 have HC:=Za (gf_in.calls g 8 285 S (some ⟨W.heap.size,0,none⟩) 2 [a,b] _ (hF.alloc (.cells #[.int .i64 a, .int .i64 b] 3)) (.inl rfl) (C_nums (t:=3) (heap_alloc_new _ _) (by simp)) (by simp));rw [eyz,hin] at HC;obtain ⟨a,rfl⟩:=Int.eq_ofNat_of_zero_le (show 0<=a by omega);obtain ⟨b,rfl⟩:=Int.eq_ofNat_of_zero_le (show 0<=b by omega);obtain ⟨i,j,hi,hj,e1,e2,e3⟩:=tab_mul a b (by omega) (by omega) (by omega) (by omega);have hg:gmul 8 a b=((gm 7 285 a b:Nat):Int):=by simp [gmul,hin,gmN]
 rw [hg, <-e3];have HF:=Za (hF.alloc (.cells #[.int .i64 a, .int .i64 b] 3));have z1:((a:Int)==0)=false:=beq_eq_false_iff_ne.2 (by omega);have z2:((b:Int)==0)=false:=beq_eq_false_iff_ne.2 (by omega);have c0:=hF.bits;have hl:=hF.lt;have c0':(W.alloc (.cells #[.int .i64 a, .int .i64 b] 3)).cell? ⟨g,0,none⟩=some (.int .i64 8):=(World.cell?_alloc_past _ _ _ hl).trans c0;have HS:=Za (show∀k,S k->k<(W.alloc (.cells #[.int .i64 a, .int .i64 b] 3)).heap.size from fun k hk=>by have:=hS k hk;simp;omega);have i1:(0:Int)<=(a:Int):=by omega
 have i2:(0:Int)<=(b:Int):=by omega
 have E1:=Za e1;have E2:=Za e2;have hsum:IntKind.i64.wrap ((i:Int)+(j:Int))=((i+j:Nat):Int):=by rw [IntKind.wrap_i64];omega
 clear hF hin hg hS e1 e2 e3;go_enter Tryz.func103,Tryz.ntmps103
 go_wp2_with (first|(go_at_call 151;refine HC.out.mono ?_;rintro e w9 ⟨rfl,m9,rfl⟩)|(go_at_call 153;refine (gf_ready.calls g S _ (HF.out.drewN _) HS.out).mono ?_;rintro e w1 ⟨rfl,⟨ta,tb,k1,k2,k3⟩,k4,k5, -⟩))
 have c6:w1.cell? ⟨g,6,none⟩=some (.slice (some ⟨tb,0,none⟩) 256 256):=(aez k1 6).trans rfl;have l1:w1.cell? ⟨tb,a,none⟩=some (.int .i64 (i:Int)):=by rw [log_cell k3 a (by omega),E1.out]
 have l2:w1.cell? ⟨tb,b,none⟩=some (.int .i64 (j:Int)):=by rw [log_cell k3 b (by omega),E2.out]
 have C2:=Za (show w1.cell? ⟨g,2,none⟩=some (.int .u32 1) from (aez k1 2).trans rfl);have K4:=Za k4;have K5:=Za k5;clear k1 k2 k3 k4 k5 c0 c0'
 go_region_held3 (fun W'=>W'.cell? ⟨g,6,none⟩=some (.slice (some ⟨tb,0,none⟩) 256 256)/\W'.cell? ⟨tb,a,none⟩=some (.int .i64 (i:Int))/\W'.cell? ⟨tb,b,none⟩=some (.int .i64 (j:Int))) (first|exact ⟨c6,l1,l2⟩|exact ⟨bCz q6 c6,bCz q6 l1,bCz q6 l2⟩) (first|(go_at_call 154;refine (gf_Exp.calls g S (i+j) _ (by omega) (K4.out.drewN 1) (fun k hk=>Zp (HS.out k hk) K5.out.size)).mono ?_;rintro e w3 ⟨rfl,q4,q5,q6'⟩;have q6:=q6' C2.out;clear q6'))
 have Q4:=Za q4;have Q5:=Za (((BB.refl W g).alloc (.cells #[.int .i64 a, .int .i64 b] 3)).drewN m9|>.trans K5.out|>.trans (show BB w1 w3 g from ⟨q5.os,q5.tape,q5.output,q5.size,q5.block⟩));clear q4 q5 q6 c6 l1 l2;go_wp2;go_ret;exact ⟨rfl,Q4.out,Q5.out⟩
theorem cAz.calls (g : Nat) (S : Nat -> Prop) (wb a b : Int) (W : World) (hw : wb = 8 \/ wb = 16) (hF : Fd W g wb (fpoly wb) S) (hS : ∀ k, S k -> k < W.heap.size) :
  Calls Tryz.prog 103 #[.pointer (some ⟨g,0,none⟩), .int .i64 a, .int .i64 b] W fun e w'=>e= .returned (.int .i64 (gmul wb a b))/\Fd w' g wb (fpoly wb) S/\BB W w' g:=by
 by_cases h:(inF wb a&&inF wb b)=true
 ·by_cases ha:a=0
  ·exact cAz.zero g S wb _ a b W hw hF h (.inl ha)
  ·by_cases hb:b=0
   ·exact cAz.zero g S wb _ a b W hw hF h (.inr ⟨ha,hb⟩)
   ·simp only [Bool.and_eq_true,inF,decide_eq_true_eq] at h;rcases hw with rfl|rfl
    ·exact cAz.in8 g S a b W hF hS (by omega) h.1.2 (by omega) h.2.2
    ·exact cAz.in16 g S a b W hF (by omega) h.1.2 (by omega) h.2.2
 ·exact cAz.out g S wb _ a b W hw hF (by simpa using h)
mutual
def bez.l0:Nat->Int->List Int->Int->Option (List Int)
 |0,_,_,_=>none
 |k+1,x0,x3,x4=>if x0>1 then (if x4=0 then (none) else (if (Int.tmod x0 x4)=0 then (if x3.length<17592186044416 then (bez.j1 k x0 (x3++ [x4]) x4) else (none)) else (bez.j1 k x0 x3 x4))) else (some x3)
def bez.j1:Nat->Int->List Int->Int->Option (List Int)
 |0,_,_,_=>none
 |k+1,x0,x3,x4=>bez.l1 k x0 x3 x4
def bez.l1:Nat->Int->List Int->Int->Option (List Int)
 |0,_,_,_=>none
 |k+1,x0,x3,x4=>if x4=0 then (none) else (if (Int.tmod x0 x4)=0 then (bez.l1 k (wrap64 (Int.tdiv x0 x4)) x3 x4) else (bez.l0 k x0 x3 (wrap64 (x4+1))))
end
def bez.f (k:Nat) (a0:Int):Option (List Int):=bez.l0 k a0 ([] :List Int) 2
theorem bez.calls (k : Nat) (a0 : Int) (r : List Int) (w : World) (h : bez.f k a0 = some r) :
  Calls Tryz.prog 165 #[.int .i64 a0] w fun e w'=> ∃v0_:Value,e= .returned (v0_)/\Kd.R (Kd.int .i64) 3 w' w.heap.size (fun _=>True) v0_ r/\Below w.heap.size w w':=by
 have HB:=Za (Zw w.heap.size w);have H:=h;clear h;unfold bez.f at H;have H':=Za H;clear H;go_enter Tryz.func165,Tryz.ntmps165;go_wp2
 go_loopg [0,3,4] k (fun kq v0 v3 v4 w'=> ∃(x0_1:Int) (x3_1:List Int) (x4_1:Int),v0= .int .i64 x0_1/\v4= .int .i64 x4_1/\Aside0 (bez.l0 kq x0_1 x3_1 x4_1=some r)/\Aside0 (kq<=k)/\Aside0 (Kd.R (Kd.int .i64) 3 w' w.heap.size (fun _=>True) v3 x3_1)/\Aside0 (Below w.heap.size w w'))
 case atStart=>exact ⟨(a0),(([] :List Int)),(2),sd_,sd_,H',⟨Zv _⟩,⟨nl_⟩,⟨bl_⟩⟩
 clear H'
 try clear c1
 obtain ⟨x0_1,x3_1,x4_1,rfl,rfl,HA,HK1,HO_3,HB⟩:=hrel;rcases gk with _|k1
 ·exact Yf HA.out (by simp [bez.l0])
 have H:=HA.out;clear HA;simp only [bez.l0] at H;by_cases c2:x0_1>1
 rotate_left
 ·rw [Yb c2] at H;have c2b0:decide (1<x0_1)=false:=Ze c2;clear c2;obtain rfl:=Zn H;go_wp2;go_ret;exact ⟨_,er_,xd_ HO_3.out,bl_⟩
 rw [Ya c2] at H;have c2b0:decide (1<x0_1)=true:=Zd c2;clear c2;by_cases c3:x4_1=0
 ·rw [Ya c3] at H;exact Yf H (by simp)
 ·rw [Yb c3] at H;have c3b0:(x4_1==0)=false:=Zq c3;have c3b1:(x4_1 !=0)=true:=Yd c3;have HC4:=Za H;clear H
  go_upto_if 12 with (fail)
  go_cut [3] (fun v3 wc=> ∃(kq:Nat) (x3_3:List Int),Aside0 (bez.j1 kq x0_1 x3_3 x4_1=some r)/\Aside0 (kq<=k1)/\Aside0 (Kd.R (Kd.int .i64) 3 wc w.heap.size (fun _=>True) v3 x3_3)/\Aside0 (Below w.heap.size w wc))
  case first=>
   have H:=HC4.out;clear HC4;by_cases c5:(Int.tmod x0_1 x4_1)=0
   rotate_left
   ·rw [Yb c5] at H;have c5b0:((Int.tmod x0_1 x4_1)==0)=false:=Zq c5;have c5b1:((Int.tmod x0_1 x4_1) !=0)=true:=Yd c5
    (first|rw [c5b0] |(simp only [i64_w,i32_w];rw [c5b0])|skip)
    have H':=Za H;clear H;go_wp2
    go_meet
    case rel=>exact ⟨_,(x3_1),H',⟨by have:=HK1.out;first|omega|exact Zv _⟩,⟨xd_ HO_3.out⟩,⟨bl_⟩⟩
   rw [Ya c5] at H;have c5b0:((Int.tmod x0_1 x4_1)==0)=true:=Ye c5;have c5b1:((Int.tmod x0_1 x4_1) !=0)=false:=Yc c5;clear c5
   (first|rw [c5b0] |(simp only [i64_w,i32_w];rw [c5b0])|skip)
   by_cases c6:x3_1.length<17592186044416
   rotate_left
   ·rw [Yb c6] at H;exact Yf H (by simp)
   rw [Ya c6] at H;have LMc6:=Za c6;clear c6;obtain ⟨y277,hy277⟩: ∃y_:List Int,y_=(x3_1++ [x4_1]):=⟨_,rfl⟩
   first|rw [Zl, <-hy277] at H|rw [<-hy277] at H
   (try dsimp only at H)
   have Ny277:=Za hy277;clear hy277;have H':=Za H;clear H
   go_wp2_with (first|((with_reducible refine anz (b:= .append) (xs:= #[.tmp 13, .tmp 15]) rfl ?_);at_builtin;refine Kd.bjz (Kd.int .i64) (w0:=w) w.heap.size rfl (.tmp 13) (.tmp 15) 57 3 (.int .i64 0) 8 rfl Tryz.underlying57 info3 rfl (by decide) (by omega) u3 x3_1 x4_1 [.int .i64 x4_1] (fun _=>True) (fun _=>False) rfl rfl ?aP (fun _ hk=>hk.elim) ?aF ?aO ?aB ?aS ?aL ?_;(case aP=>exact rfl);(case aB=>exact bl_);(case aF=>exact (fun _ _=>trivial));(case aO=>exact (xd_ HO_3.out));(case aS=>exact (acz bl_));(case aL=>have:=LMc6.out;omega);intro v278 w7 ho hb hg hat;rw [<-Ny277.out] at ho;have n_:=Zb (Za (hb)) (Za (ho));clear HB HO_3;obtain ⟨HB,HO279⟩:=n_;clear ho hb hg hat))
   go_meet
   case rel=>exact ⟨_,(y277),H',⟨by have:=HK1.out;first|omega|exact Zv _⟩,⟨xd_ HO279.out⟩,⟨bl_⟩⟩
  case rest=>
   clear HC4
   try clear c1
   try clear c2
   try clear c2b0
   try clear p2
   try clear c3
   try clear c3b0
   try clear c3b1
   try clear c5
   try clear c5b0
   try clear c5b1
   try clear c6
   obtain ⟨kq,x3_3,HA,HJ3,HO_3,HB⟩:=hcut;rcases kq with _|kj3
   ·exact Yf HA.out (by simp [bez.j1])
   have H:=HA.out;clear HA;simp only [bez.j1] at H;have H':=Za H;clear H;go_wp2
   go_loopg [0] kj3 (fun kq v0 w'=> ∃(x0_3:Int),v0= .int .i64 x0_3/\Aside0 (bez.l1 kq x0_3 x3_3 x4_1=some r)/\Aside0 (kq<=kj3)/\Aside0 (Kd.R (Kd.int .i64) 3 w' w.heap.size (fun _=>True) u3 x3_3)/\Aside0 (Below w.heap.size w w'))
   case atStart=>exact ⟨(x0_1),sd_,H',⟨Zv _⟩,⟨xd_ HO_3.out⟩,⟨bl_⟩⟩
   clear H'
   try clear c1
   try clear c2
   try clear c2b0
   try clear p2
   try clear c3
   try clear c3b0
   try clear c3b1
   try clear c5
   try clear c5b0
   try clear c5b1
   try clear c6
   try clear p2
   obtain ⟨x0_3,rfl,HA,HK3,HO_3,HB⟩:=hrel;rcases gk with _|k3
   ·exact Yf HA.out (by simp [bez.l1])
   have H:=HA.out;clear HA;simp only [bez.l1] at H;by_cases c8:x4_1=0
   ·rw [Ya c8] at H;exact Yf H (by simp)
   ·rw [Yb c8] at H;have c8b0:(x4_1==0)=false:=Zq c8;have c8b1:(x4_1 !=0)=true:=Yd c8;by_cases c9:(Int.tmod x0_3 x4_1)=0
    ·rw [Ya c9] at H;have c9b0:((Int.tmod x0_3 x4_1)==0)=true:=Ye c9;have c9b1:((Int.tmod x0_3 x4_1) !=0)=false:=Yc c9;clear c9;have H':=Za H;clear H;go_wp2
     go_roundg k3
     case measure=>have:=HK1.out;have:=HJ3.out;have:=HK3.out;omega
     case rel=>exact ⟨(wrap64 (Int.tdiv x0_3 x4_1)),sd_,H',⟨by have:=HK1.out;have:=HJ3.out;have:=HK3.out;omega⟩,⟨xd_ HO_3.out⟩,⟨bl_⟩⟩
    ·rw [Yb c9] at H;have c9b0:((Int.tmod x0_3 x4_1)==0)=false:=Zq c9;have c9b1:((Int.tmod x0_3 x4_1) !=0)=true:=Yd c9;have H':=Za H;clear H;go_wp2
     go_roundg k3
     case measure=>have:=HK1.out;have:=HJ3.out;have:=HK3.out;omega
     case rel=>exact ⟨(x0_3),(x3_3),(wrap64 (x4_1+1)),sd_,sd_,H',⟨by have:=HK1.out;have:=HJ3.out;have:=HK3.out;omega⟩,⟨xd_ HO_3.out⟩,⟨bl_⟩⟩
def b7z.l0:Nat->Int->Int->Int->Int->Option (Int)
 |0,_,_,_,_=>none
 |k+1,x0,x1,x2,x7=>if x1>0 then (if (Go.bits .and .i64 x1 1)=1 then ((bOz.f k x7 x0 x2).bind fun t281=>((bOz.f k x0 x0 x2).bind fun t282=>(b7z.l0 k t282 (x1 / 2) x2 t281))) else ((bOz.f k x0 x0 x2).bind fun t283=>(b7z.l0 k t283 (x1 / 2) x2 x7))) else (some x7)
def b7z.f (k:Nat) (a0:Int) (a1:Int) (a2:Int):Option (Int):=(buz.f k 1 a2).bind fun t280=>(b7z.l0 k a0 a1 a2 t280)
theorem b7z.calls (k : Nat) (a0 : Int) (a1 : Int) (a2 : Int) (r : Int) (w : World) (h : b7z.f k a0 a1 a2 = some r) :
  Calls Tryz.prog 166 #[.int .u32 a0, .int .i64 a1, .int .u32 a2] w fun e w'=>e= .returned (.int .u32 r)/\Below w.heap.size w w':=by
 have HB:=Za (Zw w.heap.size w);have H:=h;clear h;unfold b7z.f at H;obtain ⟨t280,A4,H⟩:=ob_ H
 (try dsimp only at H)
 have H':=Za H;clear H;go_enter Tryz.func166,Tryz.ntmps166
 go_wp2_with (first|((with_reducible refine abz (f:=164) rfl ?_);refine gl_ (some 9) Tryz.func164 #[.int .u64 1, .int .u32 a2] ?_;(with_reducible refine (buz.calls k 1 a2 t280 _ A4.out).mono ?_);rintro e w' ⟨rfl,⟨nd,rfl⟩⟩;refine ⟨_,rfl,?_⟩))
 go_loopg [0,1,7] k (fun kq v0 v1 v7 w'=> ∃(x0_1:Int) (x1_1:Int) (x7_1:Int),v0= .int .u32 x0_1/\v1= .int .i64 x1_1/\v7= .int .u32 x7_1/\Aside0 (b7z.l0 kq x0_1 x1_1 a2 x7_1=some r)/\Aside0 (kq<=k)/\Aside0 (Below w.heap.size w w'))
 case atStart=>exact ⟨(a0),(a1),(t280),sd_,sd_,sd_,H',⟨Zv _⟩,⟨bl_⟩⟩
 clear H'
 try clear c1
 try clear p2
 obtain ⟨x0_1,x1_1,x7_1,rfl,rfl,rfl,HA,HK1,HB⟩:=hrel;rcases gk with _|k1
 ·exact Yf HA.out (by simp [b7z.l0])
 have H:=HA.out;clear HA;simp only [b7z.l0] at H;by_cases c5:x1_1>0
 rotate_left
 ·rw [Yb c5] at H;have c5b0:decide (0<x1_1)=false:=Ze c5;clear c5;obtain rfl:=Zn H;go_wp2;go_ret;exact ⟨er_,bl_⟩
 rw [Ya c5] at H;have c5b0:decide (0<x1_1)=true:=Zd c5;clear c5;by_cases c6:(Go.bits .and .i64 x1_1 1)=1
 rotate_left
 ·rw [Yb c6] at H;have c6b0:((Go.bits .and .i64 x1_1 1)==1)=false:=Zq c6;have c6b1:((Go.bits .and .i64 x1_1 1) !=1)=true:=Yd c6;obtain ⟨t283,A11,H⟩:=ob_ H
  (try dsimp only at H)
  have H':=Za H;clear H
  go_wp2_with (first|((with_reducible refine abz (f:=152) rfl ?_);refine gl_ (some 24) Tryz.func152 #[.int .u32 x0_1, .int .u32 x0_1, .int .u32 a2] ?_;(with_reducible refine (bOz.calls k1 x0_1 x0_1 a2 t283 _ A11.out).mono ?_);rintro e w12 ⟨rfl,hb⟩;refine ⟨_,rfl,?_⟩;have n0_:=hs_ HB hb;clear HB;have HB:=n0_;clear n0_;(try clear hb)))
  go_roundg k1
  case measure=>have:=HK1.out;omega
  case rel=>exact ⟨(t283),(x1_1 / 2),(x7_1),sd_,sd_,sd_,H',⟨by have:=HK1.out;omega⟩,⟨bl_⟩⟩
 rw [Ya c6] at H;have c6b0:((Go.bits .and .i64 x1_1 1)==1)=true:=Ye c6;have c6b1:((Go.bits .and .i64 x1_1 1) !=1)=false:=Yc c6;clear c6;obtain ⟨t281,A7,H⟩:=ob_ H
 (try dsimp only at H)
 obtain ⟨t282,A8,H⟩:=ob_ H
 (try dsimp only at H)
 have H':=Za H;clear H
 go_wp2_with (first|((with_reducible refine abz (f:=152) rfl ?_);refine gl_ (some 20) Tryz.func152 #[.int .u32 x7_1, .int .u32 x0_1, .int .u32 a2] ?_;(with_reducible refine (bOz.calls k1 x7_1 x0_1 a2 t281 _ A7.out).mono ?_);rintro e w9 ⟨rfl,hb⟩;refine ⟨_,rfl,?_⟩;have n0_:=hs_ HB hb;clear HB;have HB:=n0_;clear n0_;(try clear hb))|((with_reducible refine abz (f:=152) rfl ?_);refine gl_ (some 24) Tryz.func152 #[.int .u32 x0_1, .int .u32 x0_1, .int .u32 a2] ?_;(with_reducible refine (bOz.calls k1 x0_1 x0_1 a2 t282 _ A8.out).mono ?_);rintro e w10 ⟨rfl,hb⟩;refine ⟨_,rfl,?_⟩;have n0_:=hs_ HB hb;clear HB;have HB:=n0_;clear n0_;(try clear hb)))
 go_roundg k1
 case measure=>have:=HK1.out;omega
 case rel=>exact ⟨(t282),(x1_1 / 2),(t281),sd_,sd_,sd_,H',⟨by have:=HK1.out;omega⟩,⟨bl_⟩⟩
mutual
def bkz.j0:Nat->Int->Bool->Option (Bool)
 |0,_,_=>none
 |k+1,x0,x13=>if x13=true then (some false) else ((b6z.f (IntKind.u64.wrap (x0))).bind fun t286=>(if 0<=t286 then ((bez.f k (wrap64 ((shl .i64 1 t286) - 1))).bind fun t287=>(bkz.l0 k x0 (wrap64 ((shl .i64 1 t286) - 1)) t287 (t287.length:Int) 0)) else (none)))
def bkz.l0:Nat->Int->Int->List Int->Int->Int->Option (Bool)
 |0,_,_,_,_,_=>none
 |k+1,x0,x3,x20,x21,x22=>if x22<x21 then (if 0<=x22 then (if x22<(x20.length:Int) then (if (rd x20 x22)=0 then (none) else ((b7z.f k 2 (wrap64 (Int.tdiv x3 (rd x20 x22))) x0).bind fun t291=>(if t291=1 then (some false) else (bkz.l0 k x0 x3 x20 x21 (wrap64 (x22+1)))))) else (none)) else (none)) else (some true)
end
def bkz.f (k:Nat) (a0:Int):Option (Bool):=(bhz.f k a0).bind fun t284=>(if t284=true then ((buz.f k 2 a0).bind fun t285=>(bkz.j0 k a0 (t285==0))) else (bkz.j0 k a0 true))
theorem bkz.calls (k : Nat) (a0 : Int) (r : Bool) (w : World) (h : bkz.f k a0 = some r) :
  Calls Tryz.prog 125 #[.int .u32 a0] w fun e w'=>e= .returned (.bool r)/\Below w.heap.size w w':=by
 have HB:=Za (Zw w.heap.size w);have H:=h;clear h;unfold bkz.f at H;have HC2:=Za H;clear H;go_enter Tryz.func125,Tryz.ntmps125
 go_upto_region 1 with (fail)
 go_cut [13] (fun v13 wc=> ∃(kq:Nat) (x13_1:Bool),v13= .bool x13_1/\Aside0 (bkz.j0 kq a0 x13_1=some r)/\Aside0 (kq<=k)/\Aside0 (Below w.heap.size w wc))
 case first=>
  have H:=HC2.out;clear HC2;obtain ⟨t284,A3,H⟩:=ob_ H
  (try dsimp only at H)
  by_cases c4:t284=true
  ·subst c4;rw [Ya rfl] at H;obtain ⟨t285,A5,H⟩:=ob_ H
   (try dsimp only at H)
   have H':=Za H;clear H
   go_wp2_with (first|((with_reducible refine abz (f:=163) rfl ?_);refine gl_ (some 7) Tryz.func163 #[.int .u32 a0] ?_;(with_reducible refine (bhz.calls k a0 true _ A3.out).mono ?_);rintro e w6 ⟨rfl,hb⟩;refine ⟨_,rfl,?_⟩;have n0_:=hs_ HB hb;clear HB;have HB:=n0_;clear n0_;(try clear hb))|(go_at_call 164;(with_reducible refine (buz.calls k 2 a0 t285 _ A5.out).mono ?_);rintro e w' ⟨rfl,⟨nd,rfl⟩⟩))
   go_meet
   case rel=>exact ⟨_,((t285==0)),sd_,H',⟨by first|omega|exact Zv _⟩,⟨bl_⟩⟩
  ·replace c4:=Zr c4;subst c4;rw [Yb (show¬(false=true) by decide)] at H;have H':=Za H;clear H
   go_wp2_with (first|((with_reducible refine abz (f:=163) rfl ?_);refine gl_ (some 7) Tryz.func163 #[.int .u32 a0] ?_;(with_reducible refine (bhz.calls k a0 false _ A3.out).mono ?_);rintro e w7 ⟨rfl,hb⟩;refine ⟨_,rfl,?_⟩;have n0_:=hs_ HB hb;clear HB;have HB:=n0_;clear n0_;(try clear hb)))
   go_meet
   case rel=>exact ⟨_,(true),sd_,H',⟨by first|omega|exact Zv _⟩,⟨bl_⟩⟩
 case rest=>
  clear HC2
  try clear c1
  try clear p2
  try clear c4
  obtain ⟨kq,x13_1,rfl,HA,HJ1,HB⟩:=hcut;rcases kq with _|kj1
  ·exact Yf HA.out (by simp [bkz.j0])
  have H:=HA.out;clear HA;simp only [bkz.j0] at H;by_cases c8:x13_1=true
  ·subst c8;rw [Ya rfl] at H;obtain rfl:=Zn H;go_wp2;go_ret;exact ⟨er_,bl_⟩
  ·replace c8:=Zr c8;subst c8;rw [Yb (show¬(false=true) by decide)] at H;obtain ⟨t286,A9,H⟩:=ob_ H
   (try dsimp only at H)
   by_cases c10:0<=t286
   rotate_left
   ·rw [Yb c10] at H;exact Yf H (by simp)
   rw [Ya c10] at H;have c10b0:=Zz c10;have c10b1:=Zd c10;clear c10;obtain ⟨ji11,hji11⟩: ∃j_:Int,(shl .i64 1 t286)=j_:=⟨_,rfl⟩
   replace H:((bez.f kj1 (wrap64 ((ji11) - 1))).bind fun t287=>(bkz.l0 kj1 a0 (wrap64 ((ji11) - 1)) t287 (t287.length:Int) 0))=some r:=by first|(rw [hji11] at H;exact H)|(simp only [hji11] at H|-;exact H)
   (try rw [hji11] at A9)
   have hji11_:(IntKind.i64.wrap (1*2^min t286.toNat 64))=ji11:=hji11;have hji11z:t286<=64->(IntKind.i64.wrap (1*2^t286.toNat))=ji11:=shl_small hji11;have hji11u:(IntKind.i64.wrap (2^min t286.toNat 64))=ji11:=by have h_:=hji11_;rw [Int.one_mul] at h_;exact h_
   have hji11v:t286<=64->(IntKind.i64.wrap (2^t286.toNat))=ji11:=fun hle_=>by have h_:=hji11z hle_;rw [Int.one_mul] at h_;exact h_
   have hji11y:(wrap64 (1*2^min t286.toNat 64))=ji11:=(i64_w _).symm.trans hji11_;have hji11x:t286<=64->(wrap64 (1*2^t286.toNat))=ji11:=fun h_=>(i64_w _).symm.trans (hji11z h_)
   obtain ⟨t287,A12,H⟩:=ob_ H
   (try dsimp only at H)
   have H':=Za H;clear H
   go_wp2_with (first|((with_reducible refine abz (f:=124) rfl ?_);refine gl_ (some 16) Tryz.func124 #[.int .u64 (IntKind.u64.wrap (a0))] ?_;(with_reducible refine (b6z.calls (IntKind.u64.wrap (a0)) t286 _ A9.out).mono ?_);rintro e w' ⟨rfl,⟨nd,rfl⟩⟩;refine ⟨_,rfl,?_⟩)|((with_reducible refine abz (f:=165) rfl ?_);refine goesL_ (some 20) rfl rfl Tryz.func165 kr_ rfl #[.int .i64 (wrap64 ((ji11) - 1))] rfl (by (try simp only [List.map_toArray,List.map_cons,List.map_nil]);first|done|(simp only [hji11];rfl)|rfl|(simp only [List.length_drop,List.length_take];rfl)) ?_;(with_reducible refine (bez.calls kj1 (wrap64 ((ji11) - 1)) t287 _ A12.out).mono ?_);rintro e w13 ⟨v288,rfl,ho0,hb⟩;refine ⟨_,rfl,?_⟩;have n_:=Zb (Za (Kd.bGz ho0 (acz bl_))) (hs_ HB hb);clear HB;obtain ⟨HO289,HB⟩:=n_;clear hb ho0;obtain ⟨Ao14,co14,eo14⟩:=Kd.a7z HO289.out;subst eo14))
   go_loopg [22] kj1 (fun kq v22 w'=> ∃(x22_2:Int),v22= .int .i64 x22_2/\Aside0 (bkz.l0 kq a0 (wrap64 ((ji11) - 1)) t287 (t287.length:Int) x22_2=some r)/\Aside0 (kq<=kj1)/\Aside0 (Kd.R (Kd.int .i64) 3 w' w.heap.size (fun _=>True) (.slice Ao14 t287.length co14) t287)/\Aside0 (Below w.heap.size w w'))
   case atStart=>exact ⟨(0),sd_,H',⟨Zv _⟩,⟨xd_ HO289.out⟩,⟨bl_⟩⟩
   clear H'
   try clear c1
   try clear p2
   try clear c4
   try clear p6
   try clear c8
   try clear c10
   try clear c10b0
   try clear c10b1
   try clear c12
   try clear p2
   obtain ⟨x22_2,rfl,HA,HK2,HO_20,HB⟩:=hrel;rcases gk with _|k2
   ·exact Yf HA.out (by simp [bkz.l0])
   have H:=HA.out;clear HA;simp only [bkz.l0] at H;by_cases c15:x22_2<(t287.length:Int)
   rotate_left
   ·rw [Yb c15] at H;have c15b0:=Ze c15;clear c15;obtain rfl:=Zn H;go_wp2;go_ret;exact ⟨by first|rfl|(simp [ccz,cdz] <;>rfl)|(simp only [<-hji11];first|rfl|(simp [ccz,cdz] <;>rfl))|(simp [*,ccz,cdz] <;>rfl),bl_⟩
   rw [Ya c15] at H;have c15b0:=Zd c15;clear c15;by_cases c16:0<=x22_2
   rotate_left
   ·rw [Yb c16] at H;exact Yf H (by simp)
   rw [Ya c16] at H;have c16b0:=Zd c16;clear c16;by_cases c17:x22_2<(t287.length:Int)
   rotate_left
   ·rw [Yb c17] at H;exact Yf H (by simp)
   rw [Ya c17] at H;have c17b0:=Zd c17;clear c17;by_cases c18:(rd t287 x22_2)=0
   ·rw [Ya c18] at H;exact Yf H (by simp)
   ·rw [Yb c18] at H;have c18b0:((rd t287 x22_2)==0)=false:=Zq c18;have c18b1:((rd t287 x22_2) !=0)=true:=Yd c18;obtain ⟨t291,A19,H⟩:=ob_ H
    (try dsimp only at H)
    by_cases c20:t291=1
    ·rw [Ya c20] at H;have c20b0:(t291==1)=true:=Ye c20;have c20b1:(t291 !=1)=false:=Yc c20;clear c20;obtain rfl:=Zn H;have p290:0<=(x22_2:Int):=Zc as_;have q290:x22_2<(t287.length:Int):=Zc as_;obtain ⟨ad290,e290,hx290_0⟩:=Kd.bqz (Kd.aSz HO_20.out).2.2 x22_2 p290 q290;cases e290
     replace p290:=Zz p290;replace q290:=Zz q290
     go_wp2_with (first|((with_reducible refine abz (f:=166) rfl ?_);refine goesL_ (some 30) rfl rfl Tryz.func166 kr_ rfl #[.int .u32 2, .int .i64 (wrap64 (Int.tdiv (wrap64 ((ji11) - 1)) (rd t287 x22_2))), .int .u32 a0] rfl (by (try simp only [List.map_toArray,List.map_cons,List.map_nil]);first|done|(simp only [hji11];rfl)|rfl|(simp only [List.length_drop,List.length_take];rfl)) ?_;(with_reducible refine (b7z.calls k2 2 (wrap64 (Int.tdiv (wrap64 ((ji11) - 1)) (rd t287 x22_2))) a0 t291 _ A19.out).mono ?_);rintro e w21 ⟨rfl,hb⟩;refine ⟨_,rfl,?_⟩;have n_:=Zb (Za (Kd.cRz (xd_ HO_20.out) hb)) (hs_ HB hb);clear HO_20 HB;obtain ⟨HO_20,HB⟩:=n_;(try clear hb)))
     go_ret;exact ⟨by first|rfl|(simp [ccz,cdz] <;>rfl)|(simp only [<-hji11];first|rfl|(simp [ccz,cdz] <;>rfl))|(simp [*,ccz,cdz] <;>rfl),bl_⟩
    ·rw [Yb c20] at H;have c20b0:(t291==1)=false:=Zq c20;have c20b1:(t291 !=1)=true:=Yd c20;have H':=Za H;clear H;have p290:0<=(x22_2:Int):=Zc as_;have q290:x22_2<(t287.length:Int):=Zc as_;obtain ⟨ad290,e290,hx290_0⟩:=Kd.bqz (Kd.aSz HO_20.out).2.2 x22_2 p290 q290;cases e290
     replace p290:=Zz p290;replace q290:=Zz q290
     go_wp2_with (first|((with_reducible refine abz (f:=166) rfl ?_);refine goesL_ (some 30) rfl rfl Tryz.func166 kr_ rfl #[.int .u32 2, .int .i64 (wrap64 (Int.tdiv (wrap64 ((ji11) - 1)) (rd t287 x22_2))), .int .u32 a0] rfl (by (try simp only [List.map_toArray,List.map_cons,List.map_nil]);first|done|(simp only [hji11];rfl)|rfl|(simp only [List.length_drop,List.length_take];rfl)) ?_;(with_reducible refine (b7z.calls k2 2 (wrap64 (Int.tdiv (wrap64 ((ji11) - 1)) (rd t287 x22_2))) a0 t291 _ A19.out).mono ?_);rintro e w22 ⟨rfl,hb⟩;refine ⟨_,rfl,?_⟩;have n_:=Zb (Za (Kd.cRz (xd_ HO_20.out) hb)) (hs_ HB hb);clear HO_20 HB;obtain ⟨HO_20,HB⟩:=n_;(try clear hb)))
     (first|go_roundg k2|(subst hji11;go_roundg k2))
     case measure=>have:=HJ1.out;have:=HK2.out;omega
     case rel=>exact ⟨(wrap64 (x22_2+1)),sd_,H',⟨by have:=HJ1.out;have:=HK2.out;omega⟩,⟨xd_ HO_20.out⟩,⟨bl_⟩⟩
def bWz.f (a0:Int):Option (Bool):=if a0>=1 then (some (decide (a0<=20))) else (some false)
theorem bWz.calls (a0 : Int) (r : Bool) (w : World) (h : bWz.f a0 = some r) :
  Calls Tryz.prog 139 #[.int .i64 a0] w fun e w'=>e= .returned (.bool r)/\Drawn0 w w':=by
 have H:=h;clear h;unfold bWz.f at H;by_cases c2:a0>=1
 ·rw [Ya c2] at H;have c2b0:decide (1<=a0)=true:=Zd c2;clear c2;obtain rfl:=Zn H;go_enter Tryz.func139,Tryz.ntmps139;go_wp2;go_ret;exact ⟨sd_,dn_⟩
 ·rw [Yb c2] at H;have c2b0:decide (1<=a0)=false:=Ze c2;clear c2;obtain rfl:=Zn H;go_enter Tryz.func139,Tryz.ntmps139;go_wp2;go_ret;exact ⟨sd_,dn_⟩
def bSz.l0:Nat->Int->List (List Int)->Int->Int->Option ((List (List Int)))
 |0,_,_,_,_=>none
 |k+1,x0,x3,x9,x10=>if x10<x9 then (if 0<=x0 then (if (x0:Int).toNat<=35184372088832 then ((some (List.replicate (x0:Int).toNat 0:List Int)).bind fun y293=>(if 0<=x10 then (if x10<(y293.length:Int) then (if x3.length<5864062014805 then (bSz.l0 k x0 (x3++ [(y293.set (x10:Int).toNat 1)]) x9 (wrap64 (x10+1))) else (none)) else (none)) else (none))) else (none)) else (none)) else (some x3)
def bSz.f (k:Nat) (a0:Int):Option ((List (List Int))):=(bWz.f a0).bind fun t292=>(if t292=true then (bSz.l0 k a0 ([] :List (List Int)) a0 0) else (some ([] :List (List Int))))
theorem bSz.calls (k : Nat) (a0 : Int) (r : List (List Int)) (w : World) (h : bSz.f k a0 = some r) :
  Calls Tryz.prog 95 #[.int .i64 a0] w fun e w'=> ∃v0_:Value,e= .returned (v0_)/\Kd.S (Kd.slice 3 (Kd.int .i64)) 57 w' w.heap.size (fun _=>True) v0_ r/\Below w.heap.size w w':=by
 have HB:=Za (Zw w.heap.size w);have H:=h;clear h;unfold bSz.f at H;obtain ⟨t292,A2,H⟩:=ob_ H
 (try dsimp only at H)
 by_cases c3:t292=true
 rotate_left
 ·replace c3:=Zr c3;subst c3;rw [Yb (show¬(false=true) by decide)] at H;obtain rfl:=Zn H;go_enter Tryz.func95,Tryz.ntmps95
  go_wp2_with (first|((with_reducible refine abz (f:=139) rfl ?_);refine gl_ (some 7) Tryz.func139 #[.int .i64 a0] ?_;(with_reducible refine (bWz.calls a0 false _ A2.out).mono ?_);rintro e w' ⟨rfl,⟨nd,rfl⟩⟩;refine ⟨_,rfl,?_⟩))
  go_ret;exact ⟨_,er_,nl_,bl_⟩
 subst c3;rw [Ya rfl] at H;have H':=Za H;clear H;go_enter Tryz.func95,Tryz.ntmps95
 go_wp2_with (first|((with_reducible refine abz (f:=139) rfl ?_);refine gl_ (some 7) Tryz.func139 #[.int .i64 a0] ?_;(with_reducible refine (bWz.calls a0 true _ A2.out).mono ?_);rintro e w' ⟨rfl,⟨nd,rfl⟩⟩;refine ⟨_,rfl,?_⟩))
 go_loopg [3,10] k (fun kq v3 v10 w'=> ∃(x3_1:List (List Int)) (x10_1:Int),v10= .int .i64 x10_1/\Aside0 (bSz.l0 kq a0 x3_1 a0 x10_1=some r)/\Aside0 (kq<=k)/\Aside0 (Kd.S (Kd.slice 3 (Kd.int .i64)) 57 w' w.heap.size (fun _=>True) v3 x3_1)/\Aside0 (Below w.heap.size w w'))
 case atStart=>exact ⟨(([] :List (List Int))),(0),sd_,H',⟨Zv _⟩,⟨nl_⟩,⟨bl_⟩⟩
 clear H'
 try clear c1
 try clear p2
 try clear c3
 obtain ⟨x3_1,x10_1,rfl,HA,HK1,HO_3,HB⟩:=hrel;rcases gk with _|k1
 ·exact Yf HA.out (by simp [bSz.l0])
 have H:=HA.out;clear HA;simp only [bSz.l0] at H;by_cases c4:x10_1<a0
 rotate_left
 ·rw [Yb c4] at H;have c4b0:=Ze c4;clear c4;obtain rfl:=Zn H;go_wp2;go_ret;exact ⟨_,er_,xd_ HO_3.out,bl_⟩
 rw [Ya c4] at H;have c4b0:=Zd c4;clear c4;by_cases c5:0<=a0
 rotate_left
 ·rw [Yb c5] at H;exact Yf H (by simp)
 rw [Ya c5] at H;have c5b0:=Zz c5;have c5b1:=Zd c5;clear c5;by_cases c6:(a0:Int).toNat<=35184372088832
 rotate_left
 ·rw [Yb c6] at H;exact Yf H (by simp)
 rw [Ya c6] at H;have c6b0:=Zz c6;have c6b1:=Zd c6;clear c6;obtain ⟨y293,hy293⟩: ∃y_:List Int,y_=(List.replicate (a0:Int).toNat 0):=⟨_,rfl⟩
 first|rw [Zl, <-hy293] at H|rw [<-hy293] at H
 (try dsimp only at H)
 have Ny293:=Za hy293;clear hy293;by_cases c7:0<=x10_1
 rotate_left
 ·rw [Yb c7] at H;exact Yf H (by simp)
 rw [Ya c7] at H;have c7b0:=Zd c7;clear c7;by_cases c8:x10_1<(y293.length:Int)
 rotate_left
 ·rw [Yb c8] at H;exact Yf H (by simp)
 rw [Ya c8] at H;have c8b0:=Zd c8;clear c8;obtain ⟨y296,hy296⟩: ∃y_:List Int,y_=(y293.set (x10_1:Int).toNat 1):=⟨_,rfl⟩
 first|rw [Zl, <-hy296] at H|rw [<-hy296] at H
 (try dsimp only at H)
 have Ny296:=Za hy296;clear hy296;by_cases c10:x3_1.length<5864062014805
 rotate_left
 ·rw [Yb c10] at H;exact Yf H (by simp)
 rw [Ya c10] at H;have LMc10:=Za c10;clear c10;obtain ⟨y297,hy297⟩: ∃y_:List (List Int),y_=(x3_1++ [y296]):=⟨_,rfl⟩
 first|rw [Zl, <-hy297] at H|rw [<-hy297] at H
 (try dsimp only at H)
 have Ny297:=Za hy297;clear hy297;have H':=Za H;clear H
 go_wp2_with (first|((with_reducible refine aUz (N:=14) rfl ?_);refine Kd.R_make (Kd.int .i64) _ 3 rfl (N:=14) rfl 57 _ _ rfl a0 rfl rfl Tryz.underlying57 (.int .i64 0) 8 info3 rfl (by decide) (by omega) 0 (ok:=fun _=>True) (okp:=fun _=>True) rfl (fun _ hk=>hk) trivial (Zc as_) (Zt (Nat.mul_le_mul_right _ (Zc as_:a0.toNat<=35184372088832)) (by omega)) (Zw _ _) (Zv _) ?_;intro v294 w11 ho12 hb hg_ hnew_;clear hg_ hnew_;(first|rw [<-Ny293.out] at ho12|(simp only [Int.reduceToNat] at ho12;rw [<-Ny293.out] at ho12));have n_:=Zb (Za (Kd.S_elder' (xd_ HO_3.out) (Kd.chz ho12) hb)) (Zb (Za (Kd.bGz ho12 (acz bl_))) (hs_ HB hb));clear HO_3 HB;obtain ⟨HO_3,HO295,HB⟩:=n_;clear hb ho12;have p9:0<=(x10_1:Int):=Zc as_;have q9:(x10_1:Int)<((y293.length:Int):Int):=Zc as_;obtain ⟨go9,co9,eo9,gb9,gl9,cl9,HG9⟩:=Kd.dBz HO295.out (by omega);(first|cases eo9|(injection eo9 with ea_ en_ ec_;(first|subst ea_|(injection ea_ with ea_;subst ea_));subst ec_;clear en_));have GB9:=Za gb9;have GG9:=Za HG9;clear gb9 gl9 HG9;obtain ⟨hx9_0,hf9_0⟩:=Kd.R_celln 0 HO295.out (x10_1:Int) p9 q9;replace p9:=Zz p9;replace q9:=Zz q9;obtain ⟨hy13_,hz13_⟩:=Kd.R_celln 0 HO295.out (x10_1:Int) (Zc as_) (Zc as_);have HP13:=Kd.R_putg HO295.out (x10_1:Int) 1)|((with_reducible refine dcz (t:=3) (p:=17) rfl ?_);refine dVz (t:=3) (p:=17) (v:= ?vo_w14) (w1:=(w11.setCell ⟨go9,(x10_1:Int).toNat,none⟩ (.int .i64 1))) ?hg ?ho ?hn ?hr ?_;(case ho=>rfl);(case hg=>rfl);(case hn=>rfl);(case hr=>first|(go_simp;done)|(go_simp;rfl));intro w14 hw;have hg:w11.grownBy w14 (some go9):=(by rw [hw];exact HP13.2);have hp_:Kd.R (Kd.int .i64) 3 w14 w.heap.size (fun _=>True) (.slice (some ⟨go9,0,none⟩) y293.length co9) y296:=(by rw [hw,Ny296.out];exact HP13.1);clear HP13;have n_:=Zb (Za (Kd.cwz (v:=(.slice (some ⟨go9,0,none⟩) y293.length co9)) (v1:=(.slice (some ⟨go9,0,none⟩) y293.length co9)) (ok:=(fun _=>True)) (xd_ HO_3.out) hg (.inl rfl))) (Zb (Za (hp_)) (Za ((by rw [hw];exact dxz (HB.out) GB9.out:Below w.heap.size w w14))));clear HO_3 HO295 HB;obtain ⟨HO_3,HO295,HB⟩:=n_;clear hg hw hp_)|((with_reducible refine anz (b:= .append) (xs:= #[.tmp 18, .tmp 20]) rfl ?_);at_builtin;refine Kd.bPz (Kd.slice 3 (Kd.int .i64)) (w0:=w) w.heap.size rfl (.tmp 18) (.tmp 20) 69 57 (.slice none 0 0) 24 rfl Tryz.underlying69 info57 rfl (by decide) (by omega) u3 x3_1 y296 [.slice (some ⟨go9,0,none⟩) y293.length co9] (fun _=>True) (fun k_=>some k_=(.slice (some ⟨go9,0,none⟩) y293.length co9:Value).ownBlock) rfl rfl ?aP (fun k_ hk_=>((Kd.aQz (ok':=fun k_=>((fun _=>True)) k_/\some k_≠(u3:Value).ownBlock) (Kd.bpz (HO295.out) (Kd.bBz HO_3.out) (by decide)) (fun k_ hk=>⟨trivial,hk.2⟩))).1 k_ hk_.symm) ?aF ?aO ?aB ?aS ?aL ?_;(case aP=>exact Kd.M_row (Kd.aQz (Kd.b3z rfl (Kd.aQz (ok':=fun k_=>((fun _=>True)) k_/\some k_≠(u3:Value).ownBlock) (Kd.bpz (HO295.out) (Kd.bBz HO_3.out) (by decide)) (fun k_ hk=>⟨trivial,hk.2⟩))) (fun _ h_=>h_)));(case aB=>exact bl_);(case aF=>exact (fun _ _=>trivial));(case aO=>exact (sm_ HO_3));(case aS=>exact (acz bl_));(case aL=>have:=LMc10.out;omega);intro v298 w15 ho hb hg hat;rw [<-Ny297.out] at ho;have n_:=Zb (Za (hb)) (Za (ho));clear HB HO_3 HO295;obtain ⟨HB,HO299⟩:=n_;clear ho hb hg hat))
 go_roundg k1
 case measure=>have:=HK1.out;omega
 case rel=>exact ⟨(y297),(wrap64 (x10_1+1)),sd_,H',⟨by have:=HK1.out;omega⟩,⟨xd_ HO299.out⟩,⟨bl_⟩⟩
def blz.f (a0:Int):Option (ByteArray×Int×Int×Int×Int×Bool):=
 if a0=1 then some (⟨#[106,118]⟩,8,285,106,4,true) else if a0=2 then some (⟨#[106,99]⟩,16,69643,106,4,true)
 else if a0=3 then some (⟨#[105,114]⟩,8,285,105,3,true) else if a0=4 then some (⟨#[105,99]⟩,8,285,105,4,true)
 else if a0=5 then some (⟨#[98,98]⟩,8,285,98,4,true) else if a0=6 then some (⟨#[107,112]⟩,8,285,112,4,true)
 else some (⟨#[]⟩,0,0,0,0,false)
theorem blz.low (a0 : Int) (w : World) (h : a0 < 1) :
  Calls Tryz.prog 75 #[.int .i64 a0] w fun e w'=>e= .returned (.tuple #[.agg #[.string ⟨#[]⟩, .int .i64 0, .int .u32 0, .int .u8 0, .int .i64 0], .bool false])/\Below w.heap.size w w':=by
 go_enter Tryz.func75,Tryz.ntmps75;go_wp2;exact bodyPost_ret (v:= .tuple #[.agg #[.string ⟨#[]⟩, .int .i64 0, .int .u32 0, .int .u8 0, .int .i64 0], .bool false]) (by simp [results,Tryz.results75,go_sem]) rfl ⟨rfl,(Zw _ _).alloc (Zv _) _⟩
theorem blz.high (a0 : Int) (w : World) (h : 6 < a0) :
  Calls Tryz.prog 75 #[.int .i64 a0] w fun e w'=>e= .returned (.tuple #[.agg #[.string ⟨#[]⟩, .int .i64 0, .int .u32 0, .int .u8 0, .int .i64 0], .bool false])/\Below w.heap.size w w':=by
 have h1: ¬a0<1:=by omega
 go_enter Tryz.func75,Tryz.ntmps75;go_wp2;exact bodyPost_ret (v:= .tuple #[.agg #[.string ⟨#[]⟩, .int .i64 0, .int .u32 0, .int .u8 0, .int .i64 0], .bool false]) (by simp [results,Tryz.results75,go_sem]) rfl ⟨rfl,(Zw _ _).alloc (Zv _) _⟩
def doz.v:Value:= .agg #[.string ⟨#[106,118]⟩, .int .i64 8, .int .u32 285, .int .u8 106, .int .i64 4, .string ⟨#[106,99]⟩, .int .i64 16, .int .u32 69643, .int .u8 106, .int .i64 4, .string ⟨#[105,114]⟩, .int .i64 8, .int .u32 285, .int .u8 105, .int .i64 3, .string ⟨#[105,99]⟩, .int .i64 8, .int .u32 285, .int .u8 105, .int .i64 4, .string ⟨#[98,98]⟩, .int .i64 8, .int .u32 285, .int .u8 98, .int .i64 4, .string ⟨#[107,112]⟩, .int .i64 8, .int .u32 285, .int .u8 112, .int .i64 4]
theorem doz.any (w : World) :
  Calls Tryz.prog 111 #[] w fun e w'=>e= .returned doz.v/\Below w.heap.size w w':=by
 go_enter Tryz.func111,Tryz.ntmps111
 go_wp2_with ((with_reducible refine dcz rfl ?_);refine wpList_store_row rfl 143 _ _ rfl w.heap.size _ rfl rfl 143 _ (heap_alloc_new _ _) kr_ rfl kr_ ?_)
 exact bodyPost_ret (results_cell_row Tryz.results111 _ _ w.heap.size _ _ (0,0) _ rfl (setRow_heap _ _ _ _ _ _ (heap_alloc_new _ _)) Tryz.underlying143 rfl kr_) rfl ⟨rfl,below_setRow ((Zw _ _).alloc (Zv _) _) (Zv _) _⟩
theorem blz.at_ (a0 : Int) (s : ByteArray) (x2 x3 x4 x5 : Int) (h0 : ¬ a0 < 1) (h6 : ¬ 6 < a0) (hi : ∀ w, (Instr.index 143 doz.v (.int .i64 (a0 - 1))).run Tryz.prog w = .ok (.agg #[.string s, .int .i64 x2, .int .u32 x3, .int .u8 x4, .int .i64 x5]) w) (w : World) :
  Calls Tryz.prog 75 #[.int .i64 a0] w fun e w'=>e= .returned (.tuple #[.agg #[.string s, .int .i64 x2, .int .u32 x3, .int .u8 x4, .int .i64 x5], .bool true])/\Below w.heap.size w w':=by
 go_enter Tryz.func75,Tryz.ntmps75
 go_wp2_with fail
 refine (doz.any _).mono ?_;rintro e w1 ⟨rfl,hb⟩;have hh:w1.heap[w.heap.size]?=some (.cells #[.string ⟨#[]⟩, .int .i64 0, .int .u32 0, .int .u8 0, .int .i64 0] 109 (0,0)):=(hb.block _ (by simp)).trans (heap_alloc_new _ _)
 go_wp2_with ((with_reducible refine dcz rfl ?_);(refine wpList_store_row rfl 109 _ _ rfl w.heap.size _ rfl rfl 109 _ hh kr_ rfl kr_ ?_))
 refine bodyPost_ret (v:= .tuple #[.agg #[.string s, .int .i64 x2, .int .u32 x3, .int .u8 x4, .int .i64 x5], .bool true]) ?_ rfl ⟨rfl,below_setRow (((Zw _ _).alloc (Zv _) _).trans (hb.mono (by simp))) (Zv _) _⟩;rw [results_cell_tmp Tryz.results75];simp only [Array.getD_eq_getD_getElem?,List.getElem?_toArray,List.getElem?_cons_succ,List.getElem?_cons_zero,Option.getD_some,asAddr,Sem.run_pure,Result.andThen_ok];rw [run_loadVar_row _ w.heap.size 109 109 _ (0,0) _ (setRow_heap _ _ _ _ _ _ hh) Tryz.underlying109 rfl kr_];rfl
theorem blz.calls (a0 : Int) (r1 : ByteArray) (r2 : Int) (r3 : Int) (r4 : Int) (r5 : Int) (r6 : Bool) (w : World) (h : blz.f a0 = some (r1, r2, r3, r4, r5, r6)) :
  Calls Tryz.prog 75 #[.int .i64 a0] w fun e w'=>e= .returned (.tuple #[.agg #[.string r1, .int .i64 r2, .int .u32 r3, .int .u8 r4, .int .i64 r5], .bool r6])/\Below w.heap.size w w':=by
 unfold blz.f at h;by_cases h1:a0=1
 ·subst h1;simp at h;obtain ⟨rfl,rfl,rfl,rfl,rfl,rfl⟩:=h;exact blz.at_ 1 _ _ _ _ _ (by decide) (by decide) (fun _=>by kernel_rfl) w
 rw [Yb h1] at h;by_cases h2:a0=2
 ·subst h2;simp at h;obtain ⟨rfl,rfl,rfl,rfl,rfl,rfl⟩:=h;exact blz.at_ 2 _ _ _ _ _ (by decide) (by decide) (fun _=>by kernel_rfl) w
 rw [Yb h2] at h;by_cases h3:a0=3
 ·subst h3;simp at h;obtain ⟨rfl,rfl,rfl,rfl,rfl,rfl⟩:=h;exact blz.at_ 3 _ _ _ _ _ (by decide) (by decide) (fun _=>by kernel_rfl) w
 rw [Yb h3] at h;by_cases h4:a0=4
 ·subst h4;simp at h;obtain ⟨rfl,rfl,rfl,rfl,rfl,rfl⟩:=h;exact blz.at_ 4 _ _ _ _ _ (by decide) (by decide) (fun _=>by kernel_rfl) w
 rw [Yb h4] at h;by_cases h5:a0=5
 ·subst h5;simp at h;obtain ⟨rfl,rfl,rfl,rfl,rfl,rfl⟩:=h;exact blz.at_ 5 _ _ _ _ _ (by decide) (by decide) (fun _=>by kernel_rfl) w
 rw [Yb h5] at h;by_cases h6:a0=6
 ·subst h6;simp at h;obtain ⟨rfl,rfl,rfl,rfl,rfl,rfl⟩:=h;exact blz.at_ 6 _ _ _ _ _ (by decide) (by decide) (fun _=>by kernel_rfl) w
 rw [Yb h6] at h;simp at h;obtain ⟨rfl,rfl,rfl,rfl,rfl,rfl⟩:=h;by_cases h0:a0<1
 ·exact blz.low a0 w h0
 ·exact blz.high a0 w (by omega)
theorem prim8:bkz.f 400 285=some true:=by kernel_rfl
theorem prim16:bkz.f 1500 69643=some true:=by kernel_rfl
theorem deg8:b6z.f 285=some 8:=by kernel_rfl
theorem deg16:b6z.f 69643=some 16:=by kernel_rfl
def Fresh (w:World) (g:Nat) (wb:Int):Prop:=w.heap[g]?=some (.cells (freshF wb (fpoly wb)) 172 (0,0))
theorem Fresh.fd {w:World} {g:Nat} {wb:Int} (h:Fresh w g wb) (S:Nat->Prop) (hg: ¬S g):Fd w g wb (fpoly wb) S:=⟨hg, .inl h⟩
theorem gf_New.calls (wb : Int) (hw : wb = 8 \/ wb = 16) (W : World) :
  Calls Tryz.prog 81 #[.int .i64 wb, .int .u32 (fpoly wb)] W fun e w'=> ∃g:Nat,e= .returned (.pointer (some ⟨g,0,none⟩))/\Fresh w' g wb/\W.heap.size<=g/\Below W.heap.size W w':=by
 rcases hw with rfl|rfl
 ·have HP:=Za prim8;have HD:=Za deg8;show Calls Tryz.prog 81 #[.int .i64 8, .int .u32 285] W _;go_enter Tryz.func81,Tryz.ntmps81
  go_wp2_with (first|(go_at_call 124;refine (b6z.calls _ _ _ HD.out).mono ?_;rintro e w9 ⟨rfl,m9,rfl⟩)|(go_at_call 125;refine (bkz.calls 400 _ _ _ HP.out).mono ?_;rintro e w9 ⟨rfl,hB⟩))
  go_ret;exact ⟨_,rfl,heap_alloc_new _ _,hB.size,aoz (w:=W) ⟨hB.os,hB.tape,hB.output,hB.size,hB.block⟩ _⟩
 ·have HP:=Za prim16;have HD:=Za deg16;show Calls Tryz.prog 81 #[.int .i64 16, .int .u32 69643] W _;go_enter Tryz.func81,Tryz.ntmps81
  go_wp2_with (first|(go_at_call 124;refine (b6z.calls _ _ _ HD.out).mono ?_;rintro e w9 ⟨rfl,m9,rfl⟩)|(go_at_call 125;refine (bkz.calls 1500 _ _ _ HP.out).mono ?_;rintro e w9 ⟨rfl,hB⟩))
  go_ret;exact ⟨_,rfl,heap_alloc_new _ _,hB.size,aoz (w:=W) ⟨hB.os,hB.tape,hB.output,hB.size,hB.block⟩ _⟩
def pbits (p:Int):Int:=if p=2 then 16 else 8
theorem enz (p:Int):pbits p=8\/pbits p=16:=by unfold pbits;split<;>simp
theorem profile_told {p:Int} (h:1<=p/\p<=6): ∃s l m,blz.f p=some (s,pbits p,fpoly (pbits p),l,m,true):=by
 obtain ⟨h1,h2⟩:=h;have:p=1\/p=2\/p=3\/p=4\/p=5\/p=6:=by omega
 rcases this with rfl|rfl|rfl|rfl|rfl|rfl<;>exact ⟨_,_,_,rfl⟩
theorem eZz.calls (p : Int) (h : 1 <= p /\ p <= 6) (W : World) :
  Calls Tryz.prog 45 #[.int .i64 p] W fun e w'=> ∃g:Nat,e= .returned (.pointer (some ⟨g,0,none⟩))/\Fresh w' g (pbits p)/\W.heap.size<=g/\Below W.heap.size W w':=by
 obtain ⟨s,l,m,h0⟩:=profile_told h;have H0:=Za h0;have HN:=Za (gf_New.calls (pbits p) (enz p));generalize pbits p=wb at H0 HN|-;generalize fpoly wb=q at H0 HN;clear h h0;go_enter Tryz.func45,Tryz.ntmps45
 go_wp2_with (first|(go_at_call 75;refine (blz.calls p _ _ _ _ _ _ _ H0.out).mono ?_;rintro e w9 ⟨rfl,hB⟩)|(go_at_call 81;refine (HN.out _).mono ?_;rintro e w8 ⟨g,rfl,q1,q2,q3⟩))
 go_ret;have e1:=hB.size;exact ⟨g,rfl,q1,by simp at q2;omega,(aoz hB _).trans (q3.mono (by simp;omega))⟩
end Go.Proofs.Xc
end
