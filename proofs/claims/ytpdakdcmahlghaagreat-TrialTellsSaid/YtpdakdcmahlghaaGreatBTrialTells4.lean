-- Joined texts of this work (wip/tools/bundle.py).
import Derived.RegionTactic
import Derived.RegionCalls
import Derived.Tactics2
import Derived.Defers
import Derived.Laws.Pointers
import Derived.Laws.LoneSync
import Derived.ChangeAlike
import Derived.Laws.NewBlocks
import Derived.Outline
import Derived.Laws.Bits64
import Derived.Test.YtpdakdcmahlghaaGreatBTrialTells3
set_option maxHeartbeats 8000000
set_option maxRecDepth 100000
set_option linter.unusedVariables false
set_option linter.unusedSimpArgs false
section
namespace Go.Proofs.Xc
open Go.RowKit Go.Proofs.Pw Go.Proofs.Pl Go.Proofs.Pm
attribute [local go_sem] bcz bdz bpz bqz a4z a5z bez bfz
structure BB (w w':World) (g:Nat):Prop where
 os:w'.os=w.os
 tape:w'.tape=w.tape
 output:w'.output=w.output
 size:w.heap.size<=w'.heap.size
 block: ∀i,i<w.heap.size->i≠g->w'.heap[i]?=w.heap[i]?
theorem BB.of_below {w w':World} (h:Below w.heap.size w w') (g:Nat):BB w w' g:=⟨h.os,h.tape,h.output,h.size,fun i hi _=>h.block i hi⟩
theorem BB.refl (w:World) (g:Nat):BB w w g:=BB.of_below (Zw _ _) g
theorem BB.trans {a b c:World} {g:Nat} (h:BB a b g) (k:BB b c g):BB a c g:=
 ⟨k.os.trans h.os,k.tape.trans h.tape,k.output.trans h.output,Zt h.size k.size,fun i hi hg=>(k.block i (Zp hi h.size) hg).trans (h.block i hi hg)⟩
theorem BB.keep {w w':World} {g:Nat} (h:BB w w' g):KeepBut w w' g none:=⟨h.size,fun i hi hg _=>h.block i hi hg⟩
theorem BB.below {w0 w w':World} {g:Nat} (h:BB w w' g) (hB:Below w0.heap.size w0 w) (hg:w0.heap.size<=g):Below w0.heap.size w0 w':=
 ⟨h.os.trans hB.os,h.tape.trans hB.tape,h.output.trans hB.output,Zt hB.size h.size,fun i hi=>(h.block i (Zp hi hB.size) (by omega)).trans (hB.block i hi)⟩
theorem BB.drew {a b:World} {g:Nat} (h:BB a b g):BB a b.drew g:=⟨h.os,h.tape,h.output,h.size,h.block⟩
theorem BB.drewN {a b:World} {g:Nat} (h:BB a b g) (n:Nat):BB a (b.drewN n) g:=⟨h.os,h.tape,h.output,h.size,h.block⟩
theorem BB.alloc {a b:World} {g:Nat} (h:BB a b g) (o:Obj):BB a (b.alloc o) g:=h.trans (BB.of_below (anz (Zw _ _) o) g)
theorem BB.set {a b:World} {g:Nat} (h:BB a b g) (j:Nat) (u:Value):BB a (b.setCell ⟨g,j,none⟩ u) g:=
 ⟨h.os,h.tape,h.output,by simpa using h.size,fun i hi hg=>(Below.heap_setCell b ⟨g,j,none⟩ u i hg).trans (h.block i hi hg)⟩
theorem BB.new {a b:World} {g n:Nat} (h:BB a b g) (hn:a.heap.size<=n) (j:Nat) (u:Value):BB a (b.setCell ⟨n,j,none⟩ u) g:=
 ⟨h.os,h.tape,h.output,by simpa using h.size,fun i hi hg=>(Below.heap_setCell b ⟨n,j,none⟩ u i (by show i≠n;omega)).trans (h.block i hi hg)⟩
def gpN:Nat->Nat
 |0=>1
 |i+1=>xt 128 285 (gpN i)
def expAt:Nat->List Int
 |0=>List.replicate 256 0
 |i+1=>(expAt i).set i (gpN i:Int)
def logAt:Nat->List Int
 |0=>List.replicate 256 0
 |i+1=>(logAt i).set (gpN i) (i:Int)
theorem eoz: ∀i,(expAt i).length=256
 |0=>List.length_replicate
 |i+1=>by rw [expAt,List.length_set,eoz i]
theorem epz: ∀i,(logAt i).length=256
 |0=>List.length_replicate
 |i+1=>by rw [logAt,List.length_set,epz i]
theorem gpN_range: ∀i,i<256->1<=gpN i/\gpN i<256:=by decide+kernel
def freshF (wb p:Int):Array Value:= #[.int .i64 wb, .int .u32 p, .int .u32 0, .int .i32 0, .int .u32 0, .slice none 0 0, .slice none 0 0]
def readyF (wb p:Int) (a b:Nat):Array Value:= #[.int .i64 wb, .int .u32 p, .int .u32 1, .int .i32 0, .int .u32 0, .slice (some ⟨a,0,none⟩) 256 256, .slice (some ⟨b,0,none⟩) 256 256]
def Fd (W:World) (g:Nat) (wb p:Int) (S:Nat->Prop):Prop:=
 ¬S g/\(W.heap[g]?=some (.cells (freshF wb p) 172 (0,0))\/
  (wb=8/\p=285/\ ∃a b,W.heap[g]?=some (.cells (readyF wb p a b) 172 (0,0))/\W.heap[a]?=some (.cells (nums .i64 (expAt 255)).toArray 3 (0,0))/\W.heap[b]?=some (.cells (nums .i64 (logAt 255)).toArray 3 (0,0))/\ ¬S a/\ ¬S b))
theorem Fd.lt {W:World} {g:Nat} {wb p:Int} {S:Nat->Prop} (h:Fd W g wb p S):g<W.heap.size:=by
 obtain ⟨-,h|⟨-, -,a,b,h, -⟩⟩:=h
 ·exact a8z h
 ·exact a8z h
theorem Fd.move {W W1:World} {g:Nat} {wb p:Int} {S:Nat->Prop} (h:Fd W g wb p S) (hm: ∀k, ¬S k->k<W.heap.size->W1.heap[k]?=W.heap[k]?):Fd W1 g wb p S:=by
 obtain ⟨hg,h|⟨h8,hp,a,b,h,ha,hb,na,nb⟩⟩:=h
 ·exact ⟨hg, .inl ((hm g hg (a8z h)).trans h)⟩
 ·exact ⟨hg, .inr ⟨h8,hp,a,b,(hm g hg (a8z h)).trans h,(hm a na (a8z ha)).trans ha,(hm b nb (a8z hb)).trans hb,na,nb⟩⟩
theorem Fd.thin {W:World} {g:Nat} {wb p:Int} {S S':Nat->Prop} (h:Fd W g wb p S) (hs: ∀k,k<W.heap.size->S' k->S k):Fd W g wb p S':=by
 obtain ⟨hg,h|⟨h8,hp,a,b,h,ha,hb,na,nb⟩⟩:=h
 ·exact ⟨fun s=>hg (hs _ (a8z h) s), .inl h⟩
 ·exact ⟨fun s=>hg (hs _ (a8z h) s), .inr ⟨h8,hp,a,b,h,ha,hb,fun s=>na (hs _ (a8z ha) s),fun s=>nb (hs _ (a8z hb) s)⟩⟩
theorem Fd.more {W:World} {g:Nat} {wb p:Int} {S:Nat->Prop} (h:Fd W g wb p S):Fd W g wb p (fun k=>S k\/W.heap.size<=k):=h.thin (fun _ hk hs=>hs.resolve_right (by omega))
theorem Fd.below {W W1:World} {g:Nat} {wb p:Int} {S:Nat->Prop} (h:Fd W g wb p S) (hb:Below W.heap.size W W1):Fd W1 g wb p S:=h.move (fun k _ hk=>hb.block k hk)
theorem Fd.alloc {W:World} {g:Nat} {wb p:Int} {S:Nat->Prop} (h:Fd W g wb p S) (o:Obj):Fd (W.alloc o) g wb p S:=h.below (anz (Zw _ _) o)
theorem Fd.drew {W:World} {g:Nat} {wb p:Int} {S:Nat->Prop} (h:Fd W g wb p S):Fd W.drew g wb p S:=h
theorem Fd.drewN {W:World} {g:Nat} {wb p:Int} {S:Nat->Prop} (h:Fd W g wb p S) (n:Nat):Fd (W.drewN n) g wb p S:=h
theorem Fd.set {W:World} {g:Nat} {wb p:Int} {S:Nat->Prop} (h:Fd W g wb p S) {q:Addr} (hq:S q.block) (u:Value):Fd (W.setCell q u) g wb p S:=
 h.move (fun k hk _=>Below.heap_setCell W q u k (fun e=>hk (e▸hq)))
theorem Fd.bits {W:World} {g:Nat} {wb p:Int} {S:Nat->Prop} (h:Fd W g wb p S):W.cell? ⟨g,0,none⟩=some (.int .i64 wb):=by
 obtain ⟨-,h|⟨-, -,a,b,h, -⟩⟩:=h
 ·exact (abz h 0).trans rfl
 ·exact (abz h 0).trans rfl
theorem Fd.poly {W:World} {g:Nat} {wb p:Int} {S:Nat->Prop} (h:Fd W g wb p S):W.cell? ⟨g,1,none⟩=some (.int .u32 p):=by
 obtain ⟨-,h|⟨-, -,a,b,h, -⟩⟩:=h
 ·exact (abz h 1).trans rfl
 ·exact (abz h 1).trans rfl
def fsize (wb:Int):Int:=if wb=8 then 256 else 65536
def inF (wb a:Int):Bool:=decide (0<=a)&&decide (a<fsize wb)
def allIn (wb:Int) (l:List Int):Bool:=l.all fun a=>decide (0<=a)&&decide (a<fsize wb)
def gmN (wb:Int) (a b:Nat):Nat:=if wb=8 then gm 7 285 a b else gm 15 69643 a b
def gmul (wb a b:Int):Int:=if inF wb a&&inF wb b then (gmN wb a.toNat b.toNat:Int) else 0
def gpwN (wb:Int) (a n:Nat):Nat:=if wb=8 then gp 7 285 a n else gp 15 69643 a n
def gpow (wb a n:Int):Int:=if inF wb a&&decide (0<=n) then (gpwN wb a.toNat n.toNat:Int) else 0
def ginv (wb a:Int):Int:=if inF wb a&&a !=0 then gpow wb a (fsize wb - 2) else 0
theorem log_at: ∀i,i<255->(logAt 255).getD (gpN i) 0=(i:Int):=by decide+kernel
theorem exp_at: ∀i,i<255->(expAt 255).getD i 0=(gpN i:Int):=by decide+kernel
theorem gpN_255:gpN 255=1:=by decide+kernel
theorem gpN_all: ∀a,a<256->a≠0-> ∃i,i<255/\gpN i=a:=by
 have h: ∀a,a<256->a≠0->gpN ((logAt 255).getD a 0).toNat=a/\((logAt 255).getD a 0).toNat<255:=by decide+kernel
 intro a ha h0;exact ⟨_,(h a ha h0).2,(h a ha h0).1⟩
theorem gpN_lt8: ∀i,gpN i<2^(7+1)
 |0=>by decide
 |i+1=>xt_lt 7 285 _ (gpN_lt8 i) gf8.toGf.hq gf8.toGf.hq1
theorem gf8_pow_mul: ∀(i j:Nat),j<256->gm 7 285 (gpN i) (gpN j)=gpN (i+j)
 |0,j,hj=>by
  rw [Nat.zero_add];exact gf8.toGf.dPz (gpN_range j hj).2
 |i+1,j,hj=>by
  have hl:=gpN_lt8 i;show gm 7 285 (xt (2^7) 285 (gpN i)) (gpN j)=_;rw [gf8.toGf.xt_left hl,gf8_pow_mul i j hj,show i+1+j=i+j+1 from by omega];rfl
theorem gpN_succ (i:Nat):gpN (i+1)=xt 128 285 (gpN i):=rfl
theorem gpN_period: ∀i,gpN (i+255)=gpN i
 |0=>gpN_255
 |i+1=>by
  rw [show i+1+255=(i+255)+1 from by omega,gpN_succ (i+255),gpN_succ i,gpN_period i]
theorem gpN_mod (i:Nat):gpN i=gpN (i % 255):=by
 have h: ∀k r,gpN (r+255*k)=gpN r:=by
  intro k
  induction k with
  |zero=>intro r;rfl
  |succ k ih=>intro r;rw [show r+255*(k+1)=(r+255*k)+255 from by omega,gpN_period,ih]
 have:=h (i / 255) (i % 255);rwa [Nat.mod_add_div] at this
theorem tab_mul (a b:Nat) (ha:a<256) (hb:b<256) (ha0:a≠0) (hb0:b≠0): ∃i j:Nat,i<255/\j<255/\(logAt 255).getD a 0=(i:Int)/\(logAt 255).getD b 0=(j:Int)/\gpN ((i+j) % 255)=gm 7 285 a b:=by
 obtain ⟨i,hi,rfl⟩:=gpN_all a ha ha0;obtain ⟨j,hj,rfl⟩:=gpN_all b hb hb0;exact ⟨i,j,hi,hj,log_at i hi,log_at j hj,by rw [<-gpN_mod,gf8_pow_mul i j (by omega)]⟩
theorem gmul_out {wb a b:Int} (h:(inF wb a&&inF wb b)=false):gmul wb a b=0:=by simp [gmul,h]
theorem dUz (wb b:Int):gmul wb 0 b=0:=by
 unfold gmul;split
 ·rw [Int.toNat_zero];unfold gmN;split<;>rw [Gf.zero_left] <;>rfl
 ·rfl
theorem eAz (wb a:Int):gmul wb a 0=0:=by
 unfold gmul;split
 ·rw [Int.toNat_zero];unfold gmN;split<;>rw [Gf.zero_right] <;>rfl
 ·rfl
theorem gmN_lt {wb:Int} (hw:wb=8\/wb=16) {a:Nat} (b:Nat) (ha:(a:Int)<fsize wb):(gmN wb a b:Int)<fsize wb:=by
 rcases hw with rfl|rfl
 ·have:=gf8.toGf.lt (a:=a) (b:=b) (by simp [fsize] at ha;omega);simp only [gmN,fsize,if_true];omega
 ·have:=gf16.toGf.lt (a:=a) (b:=b) (by simp [fsize] at ha;omega);simp only [gmN,fsize,show¬((16:Int)=8) by decide,if_false];omega
theorem bRz {wb:Int} (hw:wb=8\/wb=16) (a b:Int):0<=gmul wb a b/\gmul wb a b<fsize wb:=by
 have hz:(0:Int)<fsize wb:=by rcases hw with rfl|rfl<;>decide
 unfold gmul;split
 ·rename_i h
  simp only [Bool.and_eq_true,inF,decide_eq_true_eq] at h;exact ⟨by omega,gmN_lt hw _ (by omega)⟩
 ·omega
theorem gpN_step: ∀i,i<255->bXz.f 40 (gpN i:Int) 2 285=some (gpN (i+1):Int):=by decide+kernel
theorem gf_Size0 (g : Nat) (wb : Int) (W : World) (hc : W.cell? ⟨g, 0, none⟩ = some (.int .i64 wb)) (hw : wb = 8 \/ wb = 16) :
  Calls Tryz.prog 150 #[.pointer (some ⟨g,0,none⟩)] W fun e w'=>e= .returned (.int .i64 (fsize wb))/\Drawn0 W w':=by
 rcases hw with rfl|rfl
 all_goals
  go_enter Tryz.func150,Tryz.ntmps150;go_wp2;go_ret;exact ⟨by simp [fsize],Drawn0.refl _⟩
theorem gf_Size8 (g : Nat) (W : World) (hc : W.cell? ⟨g, 0, none⟩ = some (.int .i64 8)) :
  Calls Tryz.prog 150 #[.pointer (some ⟨g,0,none⟩)] W fun e w'=>e= .returned (.int .i64 256)/\Drawn0 W w':=gf_Size0 g 8 W hc (.inl rfl)
theorem make256 (W:World):(Instr.makeSlice 57 (.int .i64 256) (.int .i64 256)).run Tryz.prog W= .ok (.slice (some ⟨W.heap.size,0,none⟩) 256 256) (W.alloc (.cells (nums .i64 (expAt 0)).toArray 3)):=by
 obtain ⟨i,hi,he⟩:=Option.map_eq_some_iff.1 info3;injection he with hz he
 injection he with hs hb
 have h:=run_make (P:=Tryz.prog) W 57 3 i (.int .i64 0) Tryz.underlying57 hi hz .i64 .i64 256 256 (by omega) (by omega) (by rw [hb];omega) (by omega);rw [hs,show madeCells (Value.int .i64 0).cells ((256:Int).toNat*1)=(nums .i64 (expAt 0)).toArray from by kernel_rfl] at h;exact h
def RS (pl g:Nat) (W:World):Prop:=W.cell? ⟨pl,0,none⟩=some (.pointer (some ⟨g,0,none⟩))/\W.cell? ⟨g,0,none⟩=some (.int .i64 8)
theorem RS.of {pl g:Nat} {W:World} (h1:W.cell? ⟨pl,0,none⟩=some (.pointer (some ⟨g,0,none⟩))) (h2:W.cell? ⟨g,0,none⟩=some (.int .i64 8)):RS pl g W:=⟨h1,h2⟩
theorem RS.alloc {pl g:Nat} {W:World} (h:RS pl g W) (o:Obj):RS pl g (W.alloc o):=
 ⟨(World.cell?_alloc_past _ _ _ (Zj _ _ h.1)).trans h.1,(World.cell?_alloc_past _ _ _ (Zj _ _ h.2)).trans h.2⟩
theorem RS.drew {pl g:Nat} {W:World} (h:RS pl g W):RS pl g W.drew:=h
theorem RS.drewN {pl g:Nat} {W:World} (h:RS pl g W) (n:Nat):RS pl g (W.drewN n):=h
theorem RS.set {pl g:Nat} {W:World} (hne:g≠pl) (h:RS pl g W) (j:Nat) (hj:j≠0) (u:Value):RS pl g (W.setCell ⟨g,j,none⟩ u):=
 ⟨(World.cell?_setCell_other _ ⟨g,j,none⟩ ⟨pl,0,none⟩ _ (fun e=>hne (congrArg Addr.block e))).trans h.1,(World.cell?_setCell_other _ ⟨g,j,none⟩ ⟨g,0,none⟩ _ (fun e=>hj (congrArg Addr.off e))).trans h.2⟩
def R1 (W:World) (g pl:Nat) (d st se:Value) (w:World):Prop:= ∃a b:Nat,
 (∃cs,w.heap[g]?=some (.cells cs 172 (0,0))/\cs= #[.int .i64 8, .int .u32 285,d,st,se, .slice (some ⟨a,0,none⟩) 256 256, .slice (some ⟨b,0,none⟩) 256 256])/\
 w.heap[a]?=some (.cells (nums .i64 (expAt 0)).toArray 3 (0,0))/\w.heap[b]?=some (.cells (nums .i64 (expAt 0)).toArray 3 (0,0))/\w.heap[pl]?=some (.cells #[.pointer (some ⟨g,0,none⟩)] 72 (0,0))/\
 W.heap.size<=a/\W.heap.size<=b/\a≠b/\BB W w g
theorem R1.of {W w : World} {g pl a b : Nat} {d st se : Value} (h1 : ∃ cs, w.heap[g]? = some (.cells cs 172 (0, 0)) /\ cs = #[.int .i64 8, .int .u32 285, d, st, se, .slice (some ⟨a, 0, none⟩) 256 256, .slice (some ⟨b, 0, none⟩) 256 256])
  (h3:w.heap[a]?=some (.cells (nums .i64 (expAt 0)).toArray 3 (0,0))) (h4:w.heap[b]?=some (.cells (nums .i64 (expAt 0)).toArray 3 (0,0))) (h5:w.heap[pl]?=some (.cells #[.pointer (some ⟨g,0,none⟩)] 72 (0,0)))
  (h6:W.heap.size<=a) (h7:W.heap.size<=b) (h8:a≠b) (h9:BB W w g):R1 W g pl d st se w:=⟨a,b,h1,h3,h4,h5,h6,h7,h8,h9⟩
theorem cFz (w:World) (o:Obj) (n:Nat) (h:n=w.heap.size):(w.alloc o).heap[n]?=some o:=by rw [h];exact dDz w o
structure RL (W:World) (g pl:Nat) (d st se:Value) (a b k:Nat) (w:World):Prop where
 h1:w.heap[g]?=some (.cells #[.int .i64 8, .int .u32 285,d,st,se, .slice (some ⟨a,0,none⟩) 256 256, .slice (some ⟨b,0,none⟩) 256 256] 172 (0,0))
 h2:w.heap[a]?=some (.cells (nums .i64 (expAt k)).toArray 3 (0,0))
 h3:w.heap[b]?=some (.cells (nums .i64 (logAt k)).toArray 3 (0,0))
 h4:w.heap[pl]?=some (.cells #[.pointer (some ⟨g,0,none⟩)] 72 (0,0))
 h9:BB W w g
theorem RL.of {W w : World} {g pl a b : Nat} {d st se : Value} (h1 : w.heap[g]? = some (.cells #[.int .i64 8, .int .u32 285, d, st, se, .slice (some ⟨a, 0, none⟩) 256 256, .slice (some ⟨b, 0, none⟩) 256 256] 172 (0, 0)))
  (h2:w.heap[a]?=some (.cells (nums .i64 (expAt 0)).toArray 3 (0,0))) (h3:w.heap[b]?=some (.cells (nums .i64 (expAt 0)).toArray 3 (0,0))) (h4:w.heap[pl]?=some (.cells #[.pointer (some ⟨g,0,none⟩)] 72 (0,0))) (h9:BB W w g):RL W g pl d st se a b 0 w:=⟨h1,h2,h3,h4,h9⟩
theorem RL.drewN {W w:World} {g pl a b k:Nat} {d st se:Value} (h:RL W g pl d st se a b k w) (n:Nat):RL W g pl d st se a b k (w.drewN n):=⟨h.h1,h.h2,h.h3,h.h4,h.h9.drewN n⟩
theorem nums_cell {w:World} {g:Nat} {t:TypeId} {xs:List Int} (h:w.heap[g]?=some (.cells (nums .i64 xs).toArray t (0,0))) (j:Nat) (hj:j<xs.length): ∃z,w.cell? ⟨g,j,none⟩=some (.int .i64 z):=
 ⟨xs[j],(abz h j).trans (by simp [nums,hj])⟩
theorem dzz {w:World} {g:Nat} {t:TypeId} {xs ys:List Int} (h:w.heap[g]?=some (.cells (nums .i64 xs).toArray t (0,0))) (j:Nat) (z:Int) (e:xs.set j z=ys):(w.setCell ⟨g,j,none⟩ (.int .i64 z)).heap[g]?=some (.cells (nums .i64 ys).toArray t (0,0)):=
 cJz h j _ (by subst e;simp [nums,List.map_set])
def RS3 (pl g a b:Nat) (W':World):Prop:=W'.cell? ⟨pl,0,none⟩=some (.pointer (some ⟨g,0,none⟩))/\W'.cell? ⟨g,5,none⟩=some (.slice (some ⟨a,0,none⟩) 256 256)/\W'.cell? ⟨g,6,none⟩=some (.slice (some ⟨b,0,none⟩) 256 256)
theorem RS3.drew {pl g a b:Nat} {W:World} (h:RS3 pl g a b W):RS3 pl g a b W.drew:=h
theorem RS3.drewN {pl g a b:Nat} {W:World} (h:RS3 pl g a b W) (n:Nat):RS3 pl g a b (W.drewN n):=h
theorem RS3.set {pl g a b c:Nat} {W:World} (hg:g≠c) (hp:pl≠c) (h:RS3 pl g a b W) (j:Nat) (u:Value):RS3 pl g a b (W.setCell ⟨c,j,none⟩ u):=
 ⟨(World.cell?_setCell_other _ ⟨c,j,none⟩ ⟨pl,0,none⟩ _ (fun e=>hp (congrArg Addr.block e).symm)).trans h.1,(World.cell?_setCell_other _ ⟨c,j,none⟩ ⟨g,5,none⟩ _ (fun e=>hg (congrArg Addr.block e).symm)).trans h.2.1,(World.cell?_setCell_other _ ⟨c,j,none⟩ ⟨g,6,none⟩ _ (fun e=>hg (congrArg Addr.block e).symm)).trans h.2.2⟩
theorem RL.step {W w : World} {g pl a b k q : Nat} {d st se : Value} (h : RL W g pl d st se a b k w) (hga : g ≠ a) (hgb : g ≠ b) (hab : a ≠ b) (hpa : pl ≠ a) (hpb : pl ≠ b) (e1 : (expAt k).set k (q : Int) = expAt (k + 1)) (e2 : (logAt k).set q (k : Int) = logAt (k + 1)) (hla : W.heap.size <= a) (hlb : W.heap.size <= b) :
  RL W g pl d st se a b (k+1) ((w.setCell ⟨a,k,none⟩ (.int .i64 q)).setCell ⟨b,q,none⟩ (.int .i64 k)):=
 ⟨bFz (bFz h.h1 hga _) hgb _,bFz (dzz h.h2 k _ e1) hab _,dzz (bFz h.h3 (Ne.symm hab) _) q _ e2,bFz (bFz h.h4 hpa _) hpb _,(h.h9.new hla _ _).new hlb _ _⟩
theorem RL.below {W w w1:World} {g pl a b k:Nat} {d st se:Value} (h:RL W g pl d st se a b k w) (hb:Below w.heap.size w w1):RL W g pl d st se a b k w1:=
 ⟨aBz h.h1 hb,aBz h.h2 hb,aBz h.h3 hb,aBz h.h4 hb,h.h9.trans (BB.of_below hb g)⟩
theorem gf_ready1.calls (g pl : Nat) (d : Value) (st se : Value) (W : World) (hne : g ≠ pl)
  (hg:W.heap[g]?=some (.cells #[.int .i64 8, .int .u32 285,d,st,se, .slice none 0 0, .slice none 0 0] 172 (0,0)))
  (hp:W.heap[pl]?=some (.cells #[.pointer (some ⟨g,0,none⟩)] 72 (0,0))):
  Calls Tryz.prog 179 #[.pointer (some ⟨pl,0,none⟩)] W fun e w'=>e= .returned (.tuple #[])/\ ∃a b,
   w'.heap[g]?=some (.cells #[.int .i64 8, .int .u32 285,d,st,se, .slice (some ⟨a,0,none⟩) 256 256, .slice (some ⟨b,0,none⟩) 256 256] 172 (0,0))/\
   w'.heap[a]?=some (.cells (nums .i64 (expAt 255)).toArray 3 (0,0))/\w'.heap[b]?=some (.cells (nums .i64 (logAt 255)).toArray 3 (0,0))/\
   W.heap.size<=a/\W.heap.size<=b/\BB W w' g:=by
 have hp0:W.cell? ⟨pl,0,none⟩=some (.pointer (some ⟨g,0,none⟩)):=(abz hp 0).trans rfl;have hg0:W.cell? ⟨g,0,none⟩=some (.int .i64 8):=(abz hg 0).trans rfl;have hg5:W.cell? ⟨g,5,none⟩=some (.slice none 0 0):=(abz hg 5).trans rfl;have hg6:W.cell? ⟨g,6,none⟩=some (.slice none 0 0):=(abz hg 6).trans rfl;have hf5:=bnz hg 5;have hf6:=bnz hg 6;have hmk:=make256;have hRS:RS pl g W:=Zb hp0 hg0;go_enter Tryz.func179,Tryz.ntmps179
 go_upto_region 0 with fail
 go_cut [] (fun wx=>R1 W g pl d st se wx)
 case first=>
  have n1:=World.new_ne W _ hp0;have n2:=World.new_ne W _ hg0;have hgl:g<W.heap.size:=a8z hg;have hge: ¬g=W.heap.size:=by omega
  have hge1: ¬g=W.heap.size+1:=by omega
  have n2':W.heap.size+1≠g:=by omega
  have c5: ∀(n:Nat) (X:Obj),((W.drewN n).alloc X).cell? ⟨g,5,none⟩=some (.slice none 0 0):=fun n X=>(World.cell?_alloc_past _ _ _ hgl).trans hg5
  have c6: ∀(n:Nat) (X:Obj),((W.drewN n).alloc X).cell? ⟨g,6,none⟩=some (.slice none 0 0):=fun n X=>(World.cell?_alloc_past _ _ _ hgl).trans hg6
  have f5: ∀(n:Nat) (X:Obj),((W.drewN n).alloc X).frozen? ⟨g,5,none⟩=false:=fun n X=>(World.frozen?_alloc_past _ _ _ hgl).trans hf5
  have f6: ∀(n:Nat) (X:Obj),((W.drewN n).alloc X).frozen? ⟨g,6,none⟩=false:=fun n X=>(World.frozen?_alloc_past _ _ _ hgl).trans hf6
  go_region_held3 (fun W'=>W'.cell? ⟨pl,0,none⟩=some (.pointer (some ⟨g,0,none⟩))/\W'.cell? ⟨g,0,none⟩=some (.int .i64 8)) (first|exact ⟨hp0,hg0⟩|(show RS pl g _;(repeat (first|with_reducible exact hRS|with_reducible refine RS.drewN ?_ _|with_reducible refine RS.drew ?_|with_reducible refine RS.alloc ?_ _|with_reducible refine RS.set hne ?_ 5 (by decide) _|with_reducible refine RS.set hne ?_ 6 (by decide) _)))) (first|(go_at_call 150;(refine (gf_Size8 g _ (by first|assumption|(go_simp;done))).mono ?_);rintro e W1 ⟨rfl,m1,rfl⟩))
  all_goals
   go_wp2_with fail
   go_meet
   refine R1.of ⟨_,by (repeat (with_reducible first|exact hg|apply eez|apply bGz|apply dcz|apply ccz)),by rfl⟩ ?_ ?_ ?_ (by omega) (by omega) (by omega) ?_
   ·repeat (first|(with_reducible first|refine bFz ?_ n2 _|refine bFz ?_ n2' _|refine dcz ?_ _|refine ccz ?_)|(refine cFz _ _ _ ?_;(simp;done))|(with_reducible refine bGz ?_ _))
   ·repeat (first|(with_reducible first|refine bFz ?_ n2 _|refine bFz ?_ n2' _|refine dcz ?_ _|refine ccz ?_)|(refine cFz _ _ _ ?_;(simp;done))|(with_reducible refine bGz ?_ _))
   ·repeat (with_reducible first|exact hp|refine bFz ?_ (Ne.symm hne) _|refine bGz ?_ _|refine dcz ?_ _|refine ccz ?_)
   ·repeat (with_reducible first|exact BB.refl _ _|refine BB.set ?_ _ _|refine BB.alloc ?_ _|refine BB.drewN ?_ _|refine BB.drew ?_)
 case rest=>
  obtain ⟨a,b,⟨_,hgb,rfl⟩,ha,hb,hpl,hla,hlb,hab,hBB⟩:=hcut;have hp1:wc.cell? ⟨pl,0,none⟩=some (.pointer (some ⟨g,0,none⟩)):=(abz hpl 0).trans rfl;have hg1:wc.cell? ⟨g,0,none⟩=some (.int .i64 8):=(abz hgb 0).trans rfl;have HL:=Za (RL.of hgb ha hb hpl (h9:=hBB));have hpl':pl<W.heap.size:=a8z hp;have hgl':g<W.heap.size:=a8z hg;clear hg hp hp0 hg0 hg5 hg6 hf5 hf6 hmk hRS hgb ha hb hpl hBB
  go_wp2_with (first|(go_at_call 150;(refine (gf_Size8 g _ (by first|assumption|(go_simp;done))).mono ?_);rintro e W1 ⟨rfl,m1,rfl⟩))
  go_loopw [1,20] (fun x i wr=> ∃k:Nat,k<=255/\x= .int .i64 (gpN k:Int)/\i= .int .i64 k/\Aside0 (RL W g pl d st se a b k wr)) (fun _ i _=>255 - (intOf i).toNat)
  case atStart=>exact ⟨0,by omega,rfl,rfl,⟨HL.out.drewN _⟩⟩
  clear hp1 hg1 HL;obtain ⟨k,hk,rfl,rfl,HL⟩:=hrel;by_cases hlt:k<255
  ·have HS:=Za (gpN_step k hlt);have HQ:=Za (show (logAt k).set (gpN k) (k:Int)=logAt (k+1) from rfl);obtain ⟨q3,q4⟩:=gpN_range (k+1) (by omega);obtain ⟨q',hq'⟩: ∃q',gpN (k+1)=q':=⟨_,rfl⟩;rw [hq'] at HS q3 q4;have HQ':=Za hq';clear hq';obtain ⟨q1,q2⟩:=gpN_range k (by omega);have HE:=Za (show (expAt k).set k (gpN k:Int)=expAt (k+1) from rfl);generalize gpN k=q at HS HQ HE q1 q2|-;have hga:g≠a:=by rintro rfl;omega
   have hgb:g≠b:=by rintro rfl;omega
   have hpa:pl≠a:=by omega
   have hpb:pl≠b:=by omega
   have hpl0:wr.cell? ⟨pl,0,none⟩=some (.pointer (some ⟨g,0,none⟩)):=(abz HL.out.h4 0).trans rfl;have hg1:wr.cell? ⟨g,1,none⟩=some (.int .u32 285):=(abz HL.out.h1 1).trans rfl;have hg5:wr.cell? ⟨g,5,none⟩=some (.slice (some ⟨a,0,none⟩) 256 256):=(abz HL.out.h1 5).trans rfl;have hg6:wr.cell? ⟨g,6,none⟩=some (.slice (some ⟨b,0,none⟩) 256 256):=(abz HL.out.h1 6).trans rfl;obtain ⟨z1,hz1⟩:=nums_cell HL.out.h2 k (by rw [eoz];omega);obtain ⟨z2,hz2⟩:=nums_cell HL.out.h3 q (by rw [epz];omega);have hf1:=bnz HL.out.h2 k;have hf2:=bnz HL.out.h3 q;have i1:(0:Int)<=(k:Int):=by omega
   have i2:(k:Int)<256:=by omega
   have i3:(0:Int)<=(q:Int):=by omega
   have i4:(q:Int)<256:=by omega
   have hRS:RS3 pl g a b wr:=⟨hpl0,hg5,hg6⟩
   go_wp2_with fail
   go_region_held3 (fun W'=>W'.cell? ⟨pl,0,none⟩=some (.pointer (some ⟨g,0,none⟩))/\W'.cell? ⟨g,5,none⟩=some (.slice (some ⟨a,0,none⟩) 256 256)/\W'.cell? ⟨g,6,none⟩=some (.slice (some ⟨b,0,none⟩) 256 256)) (first|exact ⟨hpl0,hg5,hg6⟩|(show RS3 pl g a b _;(repeat (first|with_reducible exact hRS|with_reducible refine RS3.drewN ?_ _|with_reducible refine RS3.drew ?_|with_reducible refine RS3.set hga hpa ?_ _ _|with_reducible refine RS3.set hgb hpb ?_ _ _)))) (fail)
   have HN:=Za (RL.step HL.out hga hgb hab hpa hpb HE.out HQ.out hla hlb);clear HL hpl0 hg1 hg5 hg6 hf1 hf2 hz1 hz2;have hm0:=Za (HN.out.drewN 1);have hd1:((wr.setCell ⟨a,k,none⟩ (.int .i64 q)).setCell ⟨b,q,none⟩ (.int .i64 k)).drew=((wr.setCell ⟨a,k,none⟩ (.int .i64 q)).setCell ⟨b,q,none⟩ (.int .i64 k)).drewN 1:=rfl;rw [hd1];clear HN hd1;generalize ((wr.setCell ⟨a,k,none⟩ (.int .i64 q)).setCell ⟨b,q,none⟩ (.int .i64 k)).drewN 1=w2 at hm0|-;have hpl0:w2.cell? ⟨pl,0,none⟩=some (.pointer (some ⟨g,0,none⟩)):=(abz hm0.out.h4 0).trans rfl;have hg1:w2.cell? ⟨g,1,none⟩=some (.int .u32 285):=(abz hm0.out.h1 1).trans rfl
   go_wp2_with (first|(go_at_call 152;(refine (bXz.calls 40 _ _ _ _ _ HS.out).mono ?_);rintro e W1 ⟨rfl,hB⟩))
   exact ⟨⟨k+1,by omega,by rw [HQ'.out],by go_num,⟨hm0.out.below hB⟩⟩,by simp [intOf];omega⟩
  ·have:k=255:=by omega
   subst this;go_wp2
   go_end0
   exact ⟨rfl,a,b,HL.out.h1,HL.out.h2,HL.out.h3,hla,hlb,HL.out.h9⟩
theorem e8z (w:World):(callFunc 205 #[]).run Tryz.prog w= .ok (.value (.tuple #[])) w:=run_call_mark0 Tryz.func205 kr_ kr_ kr_ .disable kr_ w
theorem once_enable (w:World):(callFunc 207 #[]).run Tryz.prog w= .ok (.value (.tuple #[])) w:=run_call_mark0 Tryz.func207 kr_ kr_ kr_ .enable kr_ w
theorem once_acquire (a:Addr) (w:World):(callFunc 208 #[.pointer (some a)]).run Tryz.prog w= .ok (.value (.tuple #[])) w:=run_call_marked Tryz.func208 kr_ kr_ kr_ .acquire kr_ a w
theorem fdz (a:Addr) (w:World):(callFunc 210 #[.pointer (some a)]).run Tryz.prog w= .ok (.value (.tuple #[])) w:=run_call_marked Tryz.func210 kr_ kr_ kr_ .releaseMerge kr_ a w
theorem e5z (a : Addr) (x : Value) (u : FrameMode) (w : World) (hc : w.cell? a = some x) (hz : w.frozen? a = false) :
  CallsD Tryz.prog 200 #[.pointer (some a), .bool true] u w fun e u' w'=>u'=u/\(e= .returned (.tuple #[])/\w'=w.drew.setCell a (.int .u32 1)):=by
 have hc':w.drew.cell? a=some x:=by go_simp
 have hz':w.drew.frozen? a=false:=by go_simp
 have hst:=run_call_store (P:=Tryz.prog) Tryz.func203 kr_ kr_ kr_ kr_ (k:= .u32) (y:=1) hc' hz'
 go_enter_d Tryz.func200,Tryz.ntmps200
 go_wp2
 go_region_calls
 all_goals (go_end0;exact ⟨rfl,rfl⟩)
theorem ePz (a : Addr) (u : FrameMode) (w : World) (hc : w.cell? a = some (.int .i32 1)) (hz : w.frozen? a = false) :
  CallsD Tryz.prog 199 #[.pointer (some a)] u w fun e u' w'=>u'=u/\(e= .returned (.tuple #[])/\w'=w.setCell a (.int .i32 0)):=by
 have hd:=e8z;have he:=once_enable;have hr:=fdz;have hadd:=run_call_add (P:=Tryz.prog) Tryz.func211 kr_ kr_ kr_ .i32 kr_ (y:= -1) (s:=0) hc hz (by simp [go_sem];rfl);have hcv:=run_convert_to_unsafe (P:=Tryz.prog) (src:=229) (dst:=233) Tryz.underlying229 Tryz.underlying233 kr_ hc
 go_enter_d Tryz.func199,Tryz.ntmps199
 go_wp2
 go_end0
 go_wp2
 go_end0
 exact ⟨rfl,rfl⟩
theorem once_lock_free (a : Addr) (w : World) (hc : w.cell? a = some (.int .i32 0)) (hz : w.frozen? a = false) :
  Calls Tryz.prog 198 #[.pointer (some a)] w fun e w'=>e= .returned (.tuple #[])/\w'=w.setCell a (.int .i32 1):=by
 have hd:=e8z;have he:=once_enable;have ha:=once_acquire;have hcas:=run_call_cas_hit (P:=Tryz.prog) Tryz.func206 kr_ kr_ kr_ .i32 kr_ (y:=1) hc hz;have hc':(w.setCell a (.int .i32 1)).cell? a=some (.int .i32 1):=World.cell?_setCell_same w a _ hc;have hcv:=run_convert_to_unsafe (P:=Tryz.prog) (src:=229) (dst:=233) Tryz.underlying229 Tryz.underlying233 kr_ hc';go_enter Tryz.func198,Tryz.ntmps198;go_wp2
 first|go_end0|(simp only [Exit.inBlock,Exit.then];refine bodyPost_ret (results_none rfl _ _ _) rfl ?_)|refine bodyPost_ret (results_none rfl _ _ _) rfl ?_
 go_wp2
 go_end0
 exact ⟨rfl,rfl⟩
def IsReady (W:World) (g:Nat) (w:World):Prop:= ∃a b:Nat,w.heap[g]?=some (.cells (readyF 8 285 a b) 172 (0,0))/\w.heap[a]?=some (.cells (nums .i64 (expAt 255)).toArray 3 (0,0))/\w.heap[b]?=some (.cells (nums .i64 (logAt 255)).toArray 3 (0,0))/\W.heap.size<=a/\W.heap.size<=b/\BB W w g
theorem once_slow (g pl : Nat) (W : World) (hne : g ≠ pl) (hg : W.heap[g]? = some (.cells (freshF 8 285) 172 (0, 0))) (hp : W.heap[pl]? = some (.cells #[.pointer (some ⟨g, 0, none⟩)] 72 (0, 0))) :
  Calls Tryz.prog 193 #[.pointer (some ⟨g,2,none⟩), .func (.func 179) #[] #[.pointer (some ⟨pl,0,none⟩)]] W fun e w'=>e= .returned (.tuple #[])/\IsReady W g w':=by
 have h2:W.cell? ⟨g,2,none⟩=some (.int .u32 0):=(abz hg 2).trans rfl;have h3:W.cell? ⟨g,3,none⟩=some (.int .i32 0):=(abz hg 3).trans rfl;have f3:=bnz hg 3;have f2:=bnz hg 2;have hl:=run_call_load (P:=Tryz.prog) Tryz.func197 kr_ kr_ kr_ .u32 kr_ (w:=W.setCell ⟨g,3,none⟩ (.int .i32 1)) (a:=⟨g,2,none⟩) (x:=0) ((World.cell?_setCell_other _ ⟨g,3,none⟩ ⟨g,2,none⟩ _ (by simp)).trans h2);have hg1:(W.setCell ⟨g,3,none⟩ (.int .i32 1)).heap[g]?=some (.cells #[.int .i64 8, .int .u32 285, .int .u32 0, .int .i32 1, .int .u32 0, .slice none 0 0, .slice none 0 0] 172 (0,0)):=cJz hg 3 _ rfl;have hp1:(W.setCell ⟨g,3,none⟩ (.int .i32 1)).heap[pl]?=some (.cells #[.pointer (some ⟨g,0,none⟩)] 72 (0,0)):=bFz hp (Ne.symm hne) _;have HC:=Za (gf_ready1.calls g pl _ _ _ _ hne hg1 hp1);have HBB:=Za (BB.set (BB.refl W g) 3 (.int .i32 1));have hnot: ∀(x:Bool) (w:World),(Op.unary .not (.bool x)).run Tryz.prog w= .ok (.bool (!x)) w:=fun _ _=>rfl
 have hsz:(W.setCell ⟨g,3,none⟩ (.int .i32 1)).heap.size=W.heap.size:=by simp
 have hgl:=a8z hg;clear hg hp hg1 hp1;have HSZ:=Za hsz;have HGL:=Za hgl;clear hgl;clear hsz
 go_enter_defers Tryz.func193,Tryz.ntmps193
 go_wp2_with (go_at_call 198;refine (once_lock_free ⟨g,3,none⟩ _ (by go_simp) (by go_simp)).mono ?_;rintro e w' ⟨rfl,rfl⟩)
 generalize hw1:W.setCell ⟨g,3,none⟩ (.int .i32 1)=w1 at *
 go_wp2_with (first|(go_at_call 179;refine HC.out.mono ?_;rintro e w2 ⟨rfl,a,b,k1,k2,k3,k4,k5,k6⟩)|(go_at_call 192;go_in))
 have f2':=bnz k1 2;have f3':=bnz k1 3;have h2':w2.cell? ⟨g,2,none⟩=some (.int .u32 0):=(abz k1 2).trans rfl;have h3':w2.cell? ⟨g,3,none⟩=some (.int .i32 1):=(abz k1 3).trans rfl;go_wp2;refine leaves_cons (f:=200) (args:= #[.pointer (some ⟨g,2,none⟩), .bool true]) (by simp) (by simp [go_sem]) ?_;refine (e5z ⟨g,2,none⟩ (.int .u32 0) .returning _ h2' (by simp [f2'])).mono ?_;rintro e u' w'' ⟨rfl,rfl,rfl⟩;refine leaves_cons (f:=199) (args:= #[.pointer (some ⟨g,3,none⟩)]) (by simp [settle]) (by simp [go_sem]) ?_;refine (ePz ⟨g,3,none⟩ _ _ ?_ (by simp [f3'])).mono ?_
 ·refine (World.cell?_setCell_other _ ⟨g,2,none⟩ ⟨g,3,none⟩ _ (by simp)).trans ?_;rw [World.cell?_drew];exact h3'
 rintro e u' w'' ⟨rfl,rfl,rfl⟩
 have hfin:IsReady W g ((w2.drew.setCell ⟨g,2,none⟩ (.int .u32 1)).setCell ⟨g,3,none⟩ (.int .i32 0)):=by
  have hga:a≠g:=by rintro rfl;have:=HGL.out;have:=HSZ.out;omega
  have hgb:b≠g:=by rintro rfl;have:=HGL.out;have:=HSZ.out;omega
  have k1':(w2.drew).heap[g]?=_:=k1;exact ⟨a,b,cJz (cJz k1' 2 _ rfl) 3 _ rfl,bFz (bFz (show w2.drew.heap[a]?=_ from k2) hga _) hga _,bFz (bFz (show w2.drew.heap[b]?=_ from k3) hgb _) hgb _,by have:=HSZ.out;omega,by have:=HSZ.out;omega,((HBB.out.trans k6).drew.set _ _).set _ _⟩
 simp [Leaves,settle,results,Tryz.results193];exact hfin
theorem once_do_first (g pl : Nat) (W : World) (hne : g ≠ pl) (hg : W.heap[g]? = some (.cells (freshF 8 285) 172 (0, 0))) (hp : W.heap[pl]? = some (.cells #[.pointer (some ⟨g, 0, none⟩)] 72 (0, 0))) :
  Calls Tryz.prog 178 #[.pointer (some ⟨g,2,none⟩), .func (.func 179) #[] #[.pointer (some ⟨pl,0,none⟩)]] W fun e w'=>e= .returned (.tuple #[])/\IsReady W g w':=by
 have h2:W.cell? ⟨g,2,none⟩=some (.int .u32 0):=(abz hg 2).trans rfl;have HC:=Za (once_slow g pl W hne hg hp);have hl:=run_call_load (P:=Tryz.prog) Tryz.func197 kr_ kr_ kr_ .u32 kr_ h2;have hnot: ∀(x:Bool) (w:World),(Op.unary .not (.bool x)).run Tryz.prog w= .ok (.bool (!x)) w:=fun _ _=>rfl
 clear hg hp;go_enter Tryz.func178,Tryz.ntmps178
 go_wp2_with (first|(go_at_call 193;refine HC.out.mono ?_;rintro e w' ⟨rfl,hR⟩)|(go_at_call 192;go_in))
 go_end0
 exact ⟨rfl,hR⟩
theorem once_do_done (a : Addr) (d : Int) (hd : ¬ d = 0) (fv : Value) (w : World) (h0 : w.cell? a = some (.int .u32 d)) (h' : ⟨a.block, a.off, none⟩ = a) :
  Calls Tryz.prog 178 #[.pointer (some a),fv] w fun e w'=>e= .returned (.tuple #[])/\w'=w:=by
 have hl:=run_call_load (P:=Tryz.prog) Tryz.func197 kr_ kr_ kr_ .u32 kr_ h0;have hnot: ∀(x:Bool) (w:World),(Op.unary .not (.bool x)).run Tryz.prog w= .ok (.bool (!x)) w:=fun _ _=>rfl
 have hd':(d !=0)=true:=by simp [hd]
 clear h';go_enter Tryz.func178,Tryz.ntmps178;go_wp2
 go_end0
 exact ⟨rfl,rfl⟩
theorem IsReady.fd {W w:World} {g:Nat} {S:Nat->Prop} (h:IsReady W g w) (hg: ¬S g) (hS: ∀k,S k->k<W.heap.size):Fd w g 8 285 S/\BB W w g:=by
 obtain ⟨a,b,h1,h2,h3,h4,h5,h6⟩:=h;exact ⟨⟨hg, .inr ⟨rfl,rfl,a,b,h1,h2,h3,fun s=>by have:=hS _ s;omega,fun s=>by have:=hS _ s;omega⟩⟩,h6⟩
def IsTab (g:Nat) (w:World):Prop:= ∃a b:Nat,w.heap[g]?=some (.cells (readyF 8 285 a b) 172 (0,0))/\w.heap[a]?=some (.cells (nums .i64 (expAt 255)).toArray 3 (0,0))/\w.heap[b]?=some (.cells (nums .i64 (logAt 255)).toArray 3 (0,0))
theorem gf_ready.calls (g : Nat) (S : Nat -> Prop) (W : World) (hF : Fd W g 8 285 S) (hS : ∀ k, S k -> k < W.heap.size) :
  Calls Tryz.prog 153 #[.pointer (some ⟨g,0,none⟩)] W fun e w'=>e= .returned (.pointer (some ⟨g,2,none⟩))/\IsTab g w'/\Fd w' g 8 285 S/\BB W w' g/\(W.cell? ⟨g,2,none⟩=some (.int .u32 1)->Below W.heap.size W w'):=by
 have hmf: ∀(fn:Fn) (first cap:Array Value) (w:World),(Instr.makeFunc fn first cap).run Tryz.prog w= .ok (.func fn first cap) w:=fun _ _ _ _=>rfl
 have hlt:=hF.lt;have hne:g≠W.heap.size:=by omega
 have HBB:=Za ((BB.refl W g).alloc (.cells #[.pointer (some ⟨g,0,none⟩)] 72));obtain ⟨hgS,h|⟨-, -,a,b,h1,h2,h3,ha,hb⟩⟩:=hF
 ·have HC:=Za (once_do_first g W.heap.size _ hne (bGz h _) (dDz W (.cells #[.pointer (some ⟨g,0,none⟩)] 72)));have h20:W.cell? ⟨g,2,none⟩=some (.int .u32 0):=(abz h 2).trans rfl;clear h;go_enter Tryz.func153,Tryz.ntmps153
  go_wp2_with fail
  refine HC.out.mono ?_;rintro e w' ⟨rfl,hR⟩
  have hc:w'.cell? ⟨W.heap.size,0,none⟩=some (.pointer (some ⟨g,0,none⟩)):=by
   obtain ⟨_,_,_,_,_,_,_,hB⟩:=hR;exact (World.cell?_of_block (hB.block _ (by simp) (Ne.symm hne))).trans ((abz (dDz W _) 0).trans rfl)
  have HR:=Za (Zb (show IsTab g w' by obtain ⟨a,b,h1,h2,h3, -⟩:=hR;exact ⟨a,b,h1,h2,h3⟩) (hR.fd hgS (fun k hk=>by have:=hS k hk;simp;omega)));clear hR;go_wp2;go_ret;exact ⟨rfl,HR.out.1,HR.out.2.1,HBB.out.trans HR.out.2.2,fun h1=>by rw [h20] at h1;injection h1 with h1;injection h1 with _ h1;exact Yf h1 (by decide)⟩
 ·have h0:(W.alloc (.cells #[.pointer (some ⟨g,0,none⟩)] 72)).cell? ⟨g,2,none⟩=some (.int .u32 1):=(abz (bGz h1 _) 2).trans rfl;have HC:=Za (once_do_done ⟨g,2,none⟩ 1 (by decide) (.func (.func 179) #[] #[.pointer (some ⟨W.heap.size,0,none⟩)]) _ h0 rfl);have HR:=Za (Zb (show IsTab g (W.alloc (.cells #[.pointer (some ⟨g,0,none⟩)] 72)) from ⟨a,b,bGz h1 _,bGz h2 _,bGz h3 _⟩) (show Fd (W.alloc (.cells #[.pointer (some ⟨g,0,none⟩)] 72)) g 8 285 S from ⟨hgS, .inr ⟨rfl,rfl,a,b,bGz h1 _,bGz h2 _,bGz h3 _,ha,hb⟩⟩));clear h0 h1 h2 h3;go_enter Tryz.func153,Tryz.ntmps153
  go_wp2_with fail
  refine HC.out.mono ?_;rintro e w' ⟨rfl,rfl⟩;go_wp2;go_ret;exact ⟨rfl,HR.out.1,HR.out.2,HBB.out,fun _=>anz (Zw _ _) _⟩
theorem exp_cell {w:World} {g:Nat} {t:TypeId} (h:w.heap[g]?=some (.cells (nums .i64 (expAt 255)).toArray t (0,0))) (j:Nat) (hj:j<255):w.cell? ⟨g,j,none⟩=some (.int .i64 (gpN j:Int)):=by
 rw [abz h j, <-exp_at j hj];have hl:j<(expAt 255).length:=by rw [eoz];omega
 generalize expAt 255=l at hl;simp [nums,hl,Zm]
theorem log_cell {w:World} {g:Nat} {t:TypeId} (h:w.heap[g]?=some (.cells (nums .i64 (logAt 255)).toArray t (0,0))) (j:Nat) (hj:j<256):w.cell? ⟨g,j,none⟩=some (.int .i64 ((logAt 255).getD j 0)):=by
 rw [abz h j];have hl:j<(logAt 255).length:=by rw [epz];omega
 generalize logAt 255=l at hl;simp [nums,hl,Zm]
theorem gf_Exp.calls (g : Nat) (S : Nat -> Prop) (n : Nat) (W : World) (hn : n <= 1000000) (hF : Fd W g 8 285 S) (hS : ∀ k, S k -> k < W.heap.size) :
  Calls Tryz.prog 154 #[.pointer (some ⟨g,0,none⟩), .int .i64 (n:Int)] W fun e w'=>e= .returned (.int .i64 (gpN (n % 255):Int))/\Fd w' g 8 285 S/\BB W w' g/\(W.cell? ⟨g,2,none⟩=some (.int .u32 1)->Below W.heap.size W w'):=by
 have HF:=Za hF;have HS:=Za hS;have hc0:=hF.bits;clear hF hS;obtain ⟨m,hm⟩: ∃m,n % 255=m:=⟨_,rfl⟩;have hlt:m<255:=by omega
 have e1:Int.tmod (n:Int) 255=(m:Int):=by rw [Int.tmod_eq_emod_of_nonneg (by omega)];omega
 have e1':(n:Int) % 255=(m:Int):=by omega
 have e3':((m:Int)+255) % 255=(m:Int):=by omega
 have e2:IntKind.i64.wrap ((m:Int)+255)=(m:Int)+255:=by rw [IntKind.wrap_i64];omega
 have e3:Int.tmod ((m:Int)+255) 255=(m:Int):=by rw [Int.tmod_eq_emod_of_nonneg (by omega)];omega
 have i1:(0:Int)<=(m:Int):=by omega
 have i2:(m:Int)<256:=by omega
 rw [hm];have HM:=Za hm;clear hm;go_enter Tryz.func154,Tryz.ntmps154
 go_wp2_with (go_at_call 150;refine (gf_Size8 g _ hc0).mono ?_;rintro e w9 ⟨rfl,m9,rfl⟩)
 go_region_with (first|(go_at_call 153;refine (gf_ready.calls g S _ (HF.out.drewN _) HS.out).mono ?_;rintro e w1 ⟨rfl,⟨a,b,k1,k2,k3⟩,k4,k5,k6⟩;have c5:w1.cell? ⟨g,5,none⟩=some (.slice (some ⟨a,0,none⟩) 256 256):=(abz k1 5).trans rfl;have cm:=exp_cell k2 m hlt;have K4:=Za k4;have K5:=Za k5;have K6:=Za k6;clear k1 k2 k3 k4 k5 k6))
 all_goals
  go_wp2;go_ret;exact ⟨rfl,K4.out,⟨K5.out.os,K5.out.tape,K5.out.output,K5.out.size,K5.out.block⟩,fun h=>by have hB:=K6.out (by simpa using h);exact ⟨hB.os,hB.tape,hB.output,hB.size,hB.block⟩⟩
theorem gf_Bits.calls (g : Nat) (wb p : Int) (S : Nat -> Prop) (W : World) (hF : Fd W g wb p S) :
  Calls Tryz.prog 155 #[.pointer (some ⟨g,0,none⟩)] W fun e w'=>e= .returned (.int .i64 wb)/\Drawn0 W w':=by
 have hc:=hF.bits;clear hF;go_enter Tryz.func155,Tryz.ntmps155;go_wp2;go_ret;exact ⟨rfl,Drawn0.refl _⟩
theorem eiz.calls (g : Nat) (wb p : Int) (S : Nat -> Prop) (W : World) (hF : Fd W g wb p S) (hw : wb = 8 \/ wb = 16) :
  Calls Tryz.prog 150 #[.pointer (some ⟨g,0,none⟩)] W fun e w'=>e= .returned (.int .i64 (fsize wb))/\Drawn0 W w':=by
 have hc:=hF.bits;clear hF;rcases hw with rfl|rfl
 all_goals
  go_enter Tryz.func150,Tryz.ntmps150;go_wp2;go_ret;exact ⟨by simp [fsize],Drawn0.refl _⟩
theorem gf_in.calls (g : Nat) (wb p : Int) (S : Nat -> Prop) (A : Option Addr) (c : Nat) (l : List Int) (W : World) (hF : Fd W g wb p S) (hw : wb = 8 \/ wb = 16) (hr : Kd.C (Kd.int .i64) W A l.length l) (hl : l.length <= 1000000) :
  Calls Tryz.prog 151 #[.pointer (some ⟨g,0,none⟩), .slice A l.length c] W fun e w'=>e= .returned (.bool (allIn wb l))/\Drawn0 W w':=by
 have HF:=Za hF;have HR:=Za hr;clear hF hr;go_enter Tryz.func151,Tryz.ntmps151;go_wp2
 go_loopw [9] (fun i wr=> ∃k m:Nat,k<=l.length/\i= .int .i64 k/\wr=W.drewN m/\allIn wb l=allIn wb (l.drop k))
  (fun i _=>l.length - (intOf i).toNat)
 case atStart=>exact ⟨0,0,Nat.zero_le _,rfl,rfl,by rw [List.drop_zero]⟩
 obtain ⟨k,m,hk,rfl,rfl,hall⟩:=hrel;by_cases hlt:k<l.length
 ·have hd : allIn wb (l.drop k) = ((decide (0 <= rd l (k : Int)) && decide (rd l (k : Int) < fsize wb)) && allIn wb (l.drop (k + 1))) := by
   rw [List.drop_eq_getElem_cons hlt];simp [allIn,rd,Zm,hlt, -List.getElem_cons_drop]
  rw [hd] at hall;clear hd;obtain ⟨ad,e1,hx⟩:=Kd.boz (Kd.bDz HR.out m) (k:Int) (by omega) (by omega);cases e1
  simp only [Zu] at hx;generalize rd l (k:Int)=z at hx hall;have HALL:=Za hall;clear hall;by_cases hz:z<0
  ·have hz1:decide (z<0)=true:=Zd hz;go_wp2;go_ret;refine ⟨?_,Drawn0.step (Drawn0.refl _) _⟩;rw [HALL.out,Ze (by omega)];rfl
  ·have hz1:decide (z<0)=false:=Ze hz;by_cases hz2:fsize wb<=z
   ·have hz3:decide (fsize wb<=z)=true:=Zd hz2
    go_wp2_with (go_at_call 150;refine (eiz.calls g wb p S _ (HF.out.drewN m) hw).mono ?_;rintro e w9 ⟨rfl,m9,rfl⟩)
    go_ret;refine ⟨?_,dn_⟩;rw [HALL.out,Ze (show¬z<fsize wb by omega),Bool.and_false];rfl
   ·have hz3:decide (fsize wb<=z)=false:=Ze hz2
    go_wp2_with (go_at_call 150;refine (eiz.calls g wb p S _ (HF.out.drewN m) hw).mono ?_;rintro e w9 ⟨rfl,m9,rfl⟩)
    go_roundw
    case rel=>exact ⟨k+1,m+m9,by omega,by go_num,by simp [World.drewN_drewN],by rw [HALL.out,Zd (show 0<=z by omega),Zd (show z<fsize wb by omega)];rfl⟩
    case measure=>simp [intOf];omega
 ·have:k=l.length:=by omega
  subst this;have HALL:=Za hall;go_wp2;go_ret;refine ⟨?_,Drawn0.step (Drawn0.refl _) _⟩;rw [HALL.out,List.drop_length];rfl
def clr1 (q d i a:Nat):Nat:=if a.testBit i then a^^^(q*2^(i - d)) else a
def redN (q d:Nat):Nat->Nat->Nat
 |0,a=>a
 |n+1,a=>redN q d n (clr1 q d (d+n) a)
def cmN (a b:Nat):Nat->Nat
 |0=>0
 |i+1=>if b.testBit i then cmN a b i^^^(a*2^i) else cmN a b i
theorem xor_mid (a b s:Nat):a^^^b=(a^^^s)^^^(b^^^s):=by
 rw [Nat.xor_assoc,Nat.xor_comm b s, <-Nat.xor_assoc s,Nat.xor_self,Nat.zero_xor]
theorem xor_right (a b s:Nat):(a^^^b)^^^s=(a^^^s)^^^b:=by rw [Nat.xor_assoc,Nat.xor_assoc,Nat.xor_comm b]
theorem clr1_xor (q d i a b:Nat):clr1 q d i (a^^^b)=clr1 q d i a^^^clr1 q d i b:=by
 unfold clr1;rw [Nat.testBit_xor];cases a.testBit i<;>cases b.testBit i<;>simp only [Bool.false_eq_true,if_false,if_true,Bool.xor_false,Bool.xor_true,Bool.false_xor,Bool.not_true,Bool.not_false,Bool.xor_self]
 ·exact Nat.xor_assoc _ _ _
 ·exact xor_right _ _ _
 ·exact xor_mid _ _ _
theorem redN_xor (q d:Nat): ∀(n a b:Nat),redN q d n (a^^^b)=redN q d n a^^^redN q d n b
 |0,_,_=>rfl
 |n+1,a,b=>by unfold redN;rw [clr1_xor,redN_xor q d n]
theorem mul_pow_xor (a b i:Nat):(a^^^b)*2^i=(a*2^i)^^^(b*2^i):=by
 rw [<-Nat.shiftLeft_eq, <-Nat.shiftLeft_eq, <-Nat.shiftLeft_eq];apply Nat.eq_of_testBit_eq
 intro j;simp only [Nat.testBit_shiftLeft,Nat.testBit_xor];cases decide (j>=i)<;>simp
theorem cmN_left (a c b:Nat): ∀n,cmN (a^^^c) b n=cmN a b n^^^cmN c b n
 |0=>by simp [cmN]
 |n+1=>by
  unfold cmN;split
  ·rw [cmN_left a c b n,mul_pow_xor,Nat.xor_assoc,Nat.xor_assoc];congr 1
   rw [<-Nat.xor_assoc, <-Nat.xor_assoc,Nat.xor_comm (cmN c b n)]
  ·exact cmN_left a c b n
theorem cmN_right (a b c:Nat): ∀n,cmN a (b^^^c) n=cmN a b n^^^cmN a c n
 |0=>by simp [cmN]
 |n+1=>by
  unfold cmN;rw [Nat.testBit_xor,cmN_right a b c n];cases b.testBit n<;>cases c.testBit n<;>simp only [Bool.false_eq_true,if_false,if_true,Bool.xor_false,Bool.xor_true,Bool.false_xor,Bool.not_true,Bool.not_false,Bool.xor_self]
  ·exact Nat.xor_assoc _ _ _
  ·exact xor_right _ _ _
  ·exact xor_mid _ _ _
theorem cmN_more (a b n:Nat) (hb:b<2^n): ∀k,cmN a b (n+k)=cmN a b n
 |0=>rfl
 |k+1=>by
  have e:cmN a b (n+k+1)=if b.testBit (n+k) then cmN a b (n+k)^^^(a*2^(n+k)) else cmN a b (n+k):=rfl
  show cmN a b (n+k+1)=_;rw [e,Nat.testBit_lt_two_pow (Zp hb (Nat.pow_le_pow_right (by omega) (by omega))),Yb (by decide)];exact cmN_more a b n hb k
theorem cZz {a m i:Nat} (ha:a<2^m):a*2^i<2^(m+i):=by
 rw [Nat.pow_add];exact Nat.mul_lt_mul_of_pos_right ha (Nat.pow_pos (by omega))
theorem cmN_lt (a b m:Nat) (ha:a<2^m): ∀n,cmN a b n<2^(m+n)
 |0=>by unfold cmN;exact Nat.pow_pos (by omega)
 |n+1=>by
  have h1:cmN a b n<2^(m+(n+1)):=Zp (cmN_lt a b m ha n) (Nat.pow_le_pow_right (by omega) (by omega));have h2:a*2^n<2^(m+(n+1)):=Zp (cZz ha) (Nat.pow_le_pow_right (by omega) (by omega));unfold cmN;split
  ·exact Nat.xor_lt_two_pow h1 h2
  ·exact h1
section
variable {q d : Nat} (hq : q < 2 ^ (d + 1)) (hqd : q.testBit d = true)
include hq hqd
theorem clr1_lt (i a:Nat) (hi:d<=i) (ha:a<2^(i+1)):clr1 q d i a<2^i:=by
 have hs:q*2^(i - d)<2^(i+1):=by
  have:=cZz (i:=i - d) hq;rwa [show d+1+(i - d)=i+1 by omega] at this
 have hb:(q*2^(i - d)).testBit i=true:=by
  rw [<-Nat.shiftLeft_eq,Nat.testBit_shiftLeft,show i - (i - d)=d by omega,hqd];simp
 unfold clr1;split
 ·rename_i h
  rw [bSz (Nat.xor_lt_two_pow ha hs),Nat.testBit_xor,h,hb];rfl
 ·rename_i h
  rw [bSz ha];simpa using h
omit hq hqd in
theorem clr1_small (i a:Nat) (ha:a<2^i):clr1 q d i a=a:=by
 unfold clr1;rw [Nat.testBit_lt_two_pow ha];rfl
omit hq hqd in
theorem eBz (n a:Nat) (ha:a<2^(d+n)): ∀k,redN q d (n+k) a=redN q d n a
 |0=>rfl
 |k+1=>by
  show redN q d (n+k) (clr1 q d (d+(n+k)) a)=_;rw [clr1_small _ _ (Zp ha (Nat.pow_le_pow_right (by omega) (by omega)))];exact eBz n a ha k
end
theorem cm_gm {m q : Nat} (F : Gf m q) (hb : ∀ i, i < m + 1 -> ∀ j, j < m + 1 -> redN q (m + 1) m (cmN (2 ^ i) (2 ^ j) (m + 1)) = gm m q (2 ^ i) (2 ^ j)) (a b : Nat) (ha : a < 2 ^ (m + 1)) (hb' : b < 2 ^ (m + 1)) :
  redN q (m+1) m (cmN a b (m+1))=gm m q a b:=by
 refine dBz (f:=fun a=>redN q (m+1) m (cmN a b (m+1))) (g:=fun a=>gm m q a b) (m+1) (fun x y _ _=>by show redN _ _ _ (cmN (x^^^y) b _)=_;rw [cmN_left,redN_xor]) (fun _ _ h1 h2=>F.dwz h1 h2) (fun i hi=> ?_) a ha;exact dBz (f:=fun b=>redN q (m+1) m (cmN (2^i) b (m+1))) (g:=fun b=>gm m q (2^i) b) (m+1) (fun x y _ _=>by show redN _ _ _ (cmN _ (x^^^y) _)=_;rw [cmN_right,redN_xor]) (fun _ _ _ _=>Gf.dCz _ _ _) (fun j hj=>hb i hi j hj) b hb'
theorem cm_gm8 (a b:Nat) (ha:a<256) (hb:b<256):redN 285 8 7 (cmN a b 8)=gm 7 285 a b:=cm_gm (m:=7) gf8.toGf (by decide+kernel) a b ha hb
theorem cm_gm16 (a b:Nat) (ha:a<65536) (hb:b<65536):redN 69643 16 15 (cmN a b 16)=gm 15 69643 a b:=cm_gm (m:=15) gf16.toGf (by decide+kernel) a b ha hb
theorem ofIntU64 (a:Nat) (ha:a<18446744073709551616):(BitVec.ofInt 64 (a:Int)).toNat=a:=by
 rw [BitVec.toNat_ofInt];omega
theorem u64_xor (a b:Nat) (ha:a<2^64) (hb:b<2^64):Go.bits .xor .u64 (a:Int) (b:Int)=((a^^^b:Nat):Int):=by
 have h:a^^^b<2^64:=Nat.xor_lt_two_pow ha hb;show IntKind.u64.wrap ((BitVec.ofInt 64 (a:Int)^^^BitVec.ofInt 64 (b:Int)).toNat:Int)=_;rw [BitVec.toNat_xor,ofIntU64 a (by omega),ofIntU64 b (by omega),IntKind.wrap_u64];omega
theorem ofIntU32 (a:Nat) (ha:a<4294967296):(BitVec.ofInt 32 (a:Int)).toNat=a:=by
 rw [BitVec.toNat_ofInt];omega
theorem u32_and1 (a:Nat) (ha:a<2^32):Go.bits .and .u32 (a:Int) 1=((a % 2:Nat):Int):=by
 show IntKind.u32.wrap ((BitVec.ofInt 32 (a:Int)&&&BitVec.ofInt 32 ((1:Nat):Int)).toNat:Int)=_;rw [BitVec.toNat_and,ofIntU32 a (by omega),ofIntU32 1 (by omega),Nat.and_one_is_mod,IntKind.wrap_u32];omega
theorem u64_and1 (a:Nat) (ha:a<2^64):Go.bits .and .u64 (a:Int) 1=((a % 2:Nat):Int):=by
 show IntKind.u64.wrap ((BitVec.ofInt 64 (a:Int)&&&BitVec.ofInt 64 ((1:Nat):Int)).toNat:Int)=_;rw [BitVec.toNat_and,ofIntU64 a (by omega),ofIntU64 1 (by omega),Nat.and_one_is_mod,IntKind.wrap_u64];omega
theorem shr_nat {k:IntKind} (a i:Nat) (hi:i<=k.bits):shr k (a:Int) (i:Int)=((a / 2^i:Nat):Int):=by
 unfold shr;rw [Zu,Nat.min_eq_left hi];simp
theorem daz (a i:Nat):(a.testBit i=true)↔(a / 2^i % 2=1):=by
 rw [Nat.testBit_eq_decide_div_mod_eq];simp
theorem shl64_nat (a i:Nat) (h:a*2^i<2^64) (hi:i<=64):shl .u64 (a:Int) (i:Int)=((a*2^i:Nat):Int):=by
 unfold shl;rw [Zu,show IntKind.u64.bits=64 from rfl,Nat.min_eq_left hi,IntKind.wrap_u64];have e:((a:Int)*2^i)=((a*2^i:Nat):Int):=by simp
 rw [e];omega
theorem cVz {x:Int} (h0: -1<=x) (h1:x<1000):wrap64 x=x:=by unfold wrap64;omega
theorem poly_at_cm (a b:Nat) (ha:a<2^31) (hb:b<2^31): ∀i:Nat,i<=32->caz.at_ (a:Int) (b:Int) i=((cmN a b i:Nat):Int)
 |0,_=>rfl
 |i+1,hi=>by
  have h1:a*2^i<2^64:=Zp (cZz ha) (Nat.pow_le_pow_right (by omega) (by omega));have h2:cmN a b i<2^64:=Zp (cmN_lt a b 31 ha i) (Nat.pow_le_pow_right (by omega) (by omega));unfold caz.at_ cmN;rw [poly_at_cm a b ha hb i (by omega),shr_nat (k:= .u32) b i (by show i<=32;omega),u32_and1 _ (by have:=Nat.div_le_self b (2^i);omega),IntKind.wrap_u64,show ((a:Int) % 18446744073709551616)=(a:Int) by omega,shl64_nat a i h1 (by omega),u64_xor _ _ h2 h1];by_cases h:b.testBit i=true
  ·rw [Ya h,Ya (by rw [(daz b i).1 h];rfl)]
  ·rw [Yb h,Yb (fun e=>h ((daz b i).2 (by omega)))]
theorem bitLen_spec: ∀(f x:Nat),x<2^f->Lib.bitLenAux f x<=f/\x<2^Lib.bitLenAux f x/\(x≠0->2^(Lib.bitLenAux f x)<=2*x)
 |0,x,h=>by
  have:x=0:=by simpa using h
  subst this;exact ⟨Zv _,by simp [Lib.bitLenAux],fun h=>Yf rfl h⟩
 |f+1,x,h=>by
  unfold Lib.bitLenAux;by_cases h0:x=0
  ·rw [Ya h0,h0];exact ⟨by omega,by simp,fun h=>Yf rfl h⟩
  ·rw [Yb h0];obtain ⟨i1,i2,i3⟩:=bitLen_spec f (x / 2) (by rw [Nat.pow_succ] at h;omega);refine ⟨by omega,?_,fun _=> ?_⟩
   ·rw [Nat.add_comm,Nat.pow_succ];omega
   ·rw [Nat.add_comm,Nat.pow_succ];by_cases h2:x / 2=0
    ·rw [h2];have:Lib.bitLenAux f 0=0:=by cases f<;>simp [Lib.bitLenAux]
     rw [this];omega
    ·have:=i3 h2;omega
theorem deg_f (x:Nat) (hx:x<2^64):cez.f (x:Int)=some ((Lib.bitLen x:Int) - 1):=by
 have h:=bitLen_spec 64 x hx;unfold cez.f bits_Len64.f;rw [Ya (by omega),Ya (by omega)];simp only [Zl,Zu];rw [cVz (by omega) (by have:=h.1;show (Lib.bitLen x:Int) - 1<1000;unfold Lib.bitLen;omega)]
theorem mod_loop (q d:Nat) (hq:q<2^(d+1)) (hqd:q.testBit d=true) (hd:d<=16): ∀(n k a:Nat),n<k->d+n<=40->a<2^(d+n)->byz.l0 k (a:Int) (q:Int) (d:Int) ((d:Int)+(n:Int) - 1)=some ((redN q d n a:Nat):Int)
 |0,k,a,hk,_,ha=>by
  obtain ⟨k,rfl⟩: ∃m,k=m+1:=⟨k - 1,by omega⟩;unfold byz.l0 redN;rw [Yb (by omega)];have:a<2^16:=Zp ha (Nat.pow_le_pow_right (by omega) (by omega));rw [show ((a:Int) % 4294967296)=(a:Int) by omega]
 |n+1,k,a,hk,hn,ha=>by
  obtain ⟨k,rfl⟩: ∃m,k=m+1:=⟨k - 1,by omega⟩;have e1:(d:Int)+((n+1:Nat):Int) - 1=((d+n:Nat):Int):=by omega
  have ha40:a<2^40:=Zp ha (Nat.pow_le_pow_right (by omega) (by omega));have e2:wrap64 (((d+n:Nat):Int) - 1)=(d:Int)+(n:Int) - 1:=by rw [cVz (by omega) (by omega)];omega
  have e3:wrap64 (((d+n:Nat):Int) - (d:Int))=((n:Nat):Int):=by rw [cVz (by omega) (by omega)];omega
  have hs:q*2^n<2^40:=Zp (cZz hq) (Nat.pow_le_pow_right (by omega) (by omega));have hq17:q<2^17:=Zp hq (Nat.pow_le_pow_right (by omega) (by omega));have hc:=clr1_lt hq hqd (d+n) a (by omega) ha;unfold byz.l0 redN;rw [e1,Ya (by omega),Ya (by omega),shr_nat (k:= .u64) a (d+n) (by show d+n<=64;omega),u64_and1 _ (by have:=Nat.div_le_self a (2^(d+n));omega),e2,e3,Ya (show (0:Int)<=((n:Nat):Int) by omega),IntKind.wrap_u64,show ((q:Int) % 18446744073709551616)=(q:Int) by omega,shl64_nat q n (by omega) (by omega),u64_xor _ _ (by omega) (by omega)];unfold clr1 at hc|-;rw [show d+n - d=n by omega] at hc|-;by_cases h:a.testBit (d+n)=true
  ·rw [Ya h] at hc|-;rw [Ya (by rw [(daz a (d+n)).1 h];rfl)];exact mod_loop q d hq hqd hd n k _ (by omega) (by omega) hc
  ·rw [Yb h] at hc|-;rw [Yb (fun e=>h ((daz a (d+n)).2 (by omega)))];exact mod_loop q d hq hqd hd n k _ (by omega) (by omega) hc
theorem mod_f (q d:Nat) (hq:q<2^(d+1)) (hqd:q.testBit d=true) (hd:d<=16) (n k a:Nat) (hk:40<=k) (hn:d+n<=32) (ha:a<2^(d+n)):byz.f k (a:Int) (q:Int)=some ((redN q d n a:Nat):Int):=by
 have hq17:q<2^17:=Zp hq (Nat.pow_le_pow_right (by omega) (by omega));have hq0:q≠0:=fun e=>by rw [e] at hqd;simp at hqd
 have ha32:a<2^32:=Zp ha (Nat.pow_le_pow_right (by omega) (by omega));obtain ⟨b1,b2,b3⟩:=bitLen_spec 64 q (by omega);have b3:=b3 hq0
 have hbl:Lib.bitLenAux 64 q=d+1:=by
  have hge:2^d<=q:=Nat.ge_two_pow_of_testBit hqd;have l1:d<Lib.bitLenAux 64 q:=(Nat.pow_lt_pow_iff_right (show 1<2 by omega)).1 (Nat.lt_of_le_of_lt hge b2);have l2:Lib.bitLenAux 64 q<d+2:=(Nat.pow_lt_pow_iff_right (show 1<2 by omega)).1 (by rw [Nat.pow_succ 2 (d+1)];omega);omega
 unfold byz.f;rw [Yb (by omega),IntKind.wrap_u64,show ((q:Int) % 18446744073709551616)=(q:Int) by omega,deg_f q (by omega),deg_f a (by omega)];simp only [Zl];rw [show Lib.bitLen q=d+1 from hbl,show (((d+1:Nat):Int) - 1)=(d:Int) by omega];obtain ⟨c1,c2,c3⟩:=bitLen_spec 64 a (by omega);obtain ⟨L,hL⟩: ∃L,Lib.bitLen a=L:=⟨_,rfl⟩;have hL':Lib.bitLenAux 64 a=L:=hL;rw [hL'] at c1 c2 c3;rw [hL];by_cases hld:d<=L
 ·have hLn : L <= d + n := by
   by_cases h0:a=0
   ·rw [h0] at hL';have:L=0:=by rw [<-hL'];decide
    omega
   ·have h3:=c3 h0;have:L<d+n+1:=(Nat.pow_lt_pow_iff_right (show 1<2 by omega)).1 (by rw [Nat.pow_succ];omega);omega
  obtain ⟨j,rfl⟩: ∃j,L=d+j:=⟨L - d,by omega⟩;rw [show (((d+j:Nat):Int) - 1)=(d:Int)+(j:Int) - 1 by omega,mod_loop q d hq hqd hd j k a (by omega) (by omega) c2];obtain ⟨i,rfl⟩: ∃i,n=j+i:=⟨n - j,by omega⟩;rw [eBz j a c2 i]
 ·have had:a<2^(d+0):=Zp c2 (Nat.pow_le_pow_right (by omega) (by omega))
  have hr:redN q d n a=a:=by
   have:=eBz (q:=q) 0 a had n;rw [Nat.zero_add] at this;exact this
  rw [hr];obtain ⟨k,rfl⟩: ∃m,k=m+1:=⟨k - 1,by omega⟩;unfold byz.l0;rw [Yb (by omega),show ((a:Int) % 4294967296)=(a:Int) by omega]
theorem mul_f (a b:Nat) (n:Nat) (ha:a<2^31) (hb:b<2^n) (hn:n<=31):caz.f (a:Int) (b:Int)=some ((cmN a b n:Nat):Int):=by
 have hb31:b<2^31:=Zp hb (Nat.pow_le_pow_right (by omega) hn);obtain ⟨c1,c2,c3⟩:=bitLen_spec 64 b (by omega);obtain ⟨L,hL⟩: ∃L,Lib.bitLen b=L:=⟨_,rfl⟩;have hL':Lib.bitLenAux 64 b=L:=hL;rw [hL'] at c1 c2 c3
 have hLn:L<=n:=by
  by_cases h0:b=0
  ·rw [h0] at hL';have:L=0:=by rw [<-hL'];decide
   omega
  ·have h3:=c3 h0;have:L<n+1:=(Nat.pow_lt_pow_iff_right (show 1<2 by omega)).1 (by rw [Nat.pow_succ];omega);omega
 unfold caz.f bits_Len32.f;rw [Ya (by omega),Ya (by omega)];simp only [Zl,Zu];rw [hL,Ya (by omega),Ya (by omega),poly_at_cm a b ha hb31 L (by omega)];obtain ⟨i,rfl⟩: ∃i,n=L+i:=⟨n - L,by omega⟩;rw [cmN_more a b L c2 i]
theorem poly_mulmod16 (a b:Nat) (ha:a<65536) (hb:b<65536):bXz.f 40 (a:Int) (b:Int) 69643=some ((gm 15 69643 a b:Nat):Int):=by
 unfold bXz.f;rw [mul_f a b 16 (by omega) (by omega) (by omega)];simp only [Zl];have hc:cmN a b 16<2^32:=cmN_lt a b 16 (by omega) 16;rw [show (69643:Int)=((69643:Nat):Int) from rfl,mod_f 69643 16 (by decide) (by decide) (by omega) 16 40 _ (by omega) (by omega) hc]
 have hc':cmN a b 16<2^(16+15):=by
  have h: ∀n,cmN a b (n+1)<2^(16+n):=by
   intro n;have h1:cmN a b n<2^(16+n):=cmN_lt a b 16 (by omega) n;have h2:a*2^n<2^(16+n):=cZz (by omega);unfold cmN;split
   ·exact Nat.xor_lt_two_pow h1 h2
   ·exact h1
  exact h 15
 simp only [Zl];rw [eBz (n:=15) (k:=1) _ hc',cm_gm16 a b ha hb]
end Go.Proofs.Xc
end
section
namespace Go.Proofs.Xc
open Go.RowKit Go.Proofs.Pw Go.Proofs.Pl Go.Proofs.Pm
attribute [local go_sem] bcz bdz bpz bqz a4z a5z bez bfz
theorem C_nums {w:World} {g:Nat} {t:TypeId} {xs:List Int} (h:w.heap[g]?=some (.cells (nums .i64 xs).toArray t (0,0))) (hl:xs.length<=9223372036854775807):Kd.C (Kd.int .i64) w (some ⟨g,0,none⟩) xs.length xs:=by
 refine ⟨rfl,hl,fun _=>⟨_,rfl,fun j p hp=>⟨[.int .i64 p],rfl,rfl,fun i u hu=> ?_⟩⟩⟩;obtain ⟨hj,rfl⟩:=Zk hp
 cases i with
 |succ i=>simp at hu
 |zero=>
  obtain rfl:Value.int .i64 xs[j] =u:=by simpa using hu
  have e:(⟨g,0,none⟩:Addr).add (j*(Kd.int .i64).sz+0)=⟨g,j,none⟩:=by
   show (⟨g,0,none⟩:Addr).add (j*1+0)=_;unfold Addr.add;split<;>simp_all
  rw [e,abz h j];simp [nums,hj]
theorem eCz (wb a b:Int):allIn wb [a,b] =(inF wb a&&inF wb b):=by simp [allIn,inF]
theorem allIn_one (wb a:Int):allIn wb [a] =inF wb a:=by simp [allIn,inF]
def fpoly (wb:Int):Int:=if wb=8 then 285 else 69643
theorem cHz.out (g : Nat) (S : Nat -> Prop) (wb p a b : Int) (W : World) (hw : wb = 8 \/ wb = 16) (hF : Fd W g wb p S) (h : (inF wb a && inF wb b) = false) :
  Calls Tryz.prog 103 #[.pointer (some ⟨g,0,none⟩), .int .i64 a, .int .i64 b] W fun e w'=>e= .returned (.int .i64 (gmul wb a b))/\Fd w' g wb p S/\BB W w' g:=by
 rw [gmul_out h];have HC:=Za (gf_in.calls g wb p S (some ⟨W.heap.size,0,none⟩) 2 [a,b] _ (hF.alloc (.cells #[.int .i64 a, .int .i64 b] 3)) hw (C_nums (t:=3) (heap_alloc_new _ _) (by simp)) (by simp));rw [eCz,h] at HC;have HF:=Za hF;clear hF h;go_enter Tryz.func103,Tryz.ntmps103
 go_wp2_with (first|(go_at_call 151;refine HC.out.mono ?_;rintro e w9 ⟨rfl,m9,rfl⟩))
 go_ret;exact ⟨rfl,(HF.out.alloc _).drewN _,((BB.refl _ _).alloc _).drewN _⟩
theorem cHz.zero (g : Nat) (S : Nat -> Prop) (wb p a b : Int) (W : World) (hw : wb = 8 \/ wb = 16) (hF : Fd W g wb p S) (h : (inF wb a && inF wb b) = true) (h0 : a = 0 \/ (a ≠ 0 /\ b = 0)) :
  Calls Tryz.prog 103 #[.pointer (some ⟨g,0,none⟩), .int .i64 a, .int .i64 b] W fun e w'=>e= .returned (.int .i64 (gmul wb a b))/\Fd w' g wb p S/\BB W w' g:=by
 have HC:=Za (gf_in.calls g wb p S (some ⟨W.heap.size,0,none⟩) 2 [a,b] _ (hF.alloc (.cells #[.int .i64 a, .int .i64 b] 3)) hw (C_nums (t:=3) (heap_alloc_new _ _) (by simp)) (by simp));rw [eCz,h] at HC;have HF:=Za hF;clear hF h;rcases h0 with rfl|⟨ha,rfl⟩
 ·rw [dUz];go_enter Tryz.func103,Tryz.ntmps103
  go_wp2_with (first|(go_at_call 151;refine HC.out.mono ?_;rintro e w9 ⟨rfl,m9,rfl⟩))
  go_ret;exact ⟨rfl,(HF.out.alloc _).drewN _,((BB.refl _ _).alloc _).drewN _⟩
 ·rw [eAz];have hb:(a==0)=false:=beq_eq_false_iff_ne.2 ha;clear ha;go_enter Tryz.func103,Tryz.ntmps103
  go_wp2_with (first|(go_at_call 151;refine HC.out.mono ?_;rintro e w9 ⟨rfl,m9,rfl⟩))
  go_ret;exact ⟨rfl,(HF.out.alloc _).drewN _,((BB.refl _ _).alloc _).drewN _⟩
theorem cHz.in16 (g : Nat) (S : Nat -> Prop) (a b : Int) (W : World) (hF : Fd W g 16 69643 S) (ha : 0 < a) (ha' : a < 65536) (hb : 0 < b) (hb' : b < 65536) :
  Calls Tryz.prog 103 #[.pointer (some ⟨g,0,none⟩), .int .i64 a, .int .i64 b] W fun e w'=>e= .returned (.int .i64 (gmul 16 a b))/\Fd w' g 16 69643 S/\BB W w' g:=by
 have hin:(inF 16 a&&inF 16 b)=true:=by simp [inF,fsize];omega
 have HC:=Za (gf_in.calls g 16 69643 S (some ⟨W.heap.size,0,none⟩) 2 [a,b] _ (hF.alloc (.cells #[.int .i64 a, .int .i64 b] 3)) (.inr rfl) (C_nums (t:=3) (heap_alloc_new _ _) (by simp)) (by simp));rw [eCz,hin] at HC;have hm:=poly_mulmod16 a.toNat b.toNat (by omega) (by omega);rw [Int.toNat_of_nonneg (by omega),Int.toNat_of_nonneg (by omega)] at hm;have hg:gmul 16 a b=((gm 15 69643 a.toNat b.toNat:Nat):Int):=by simp [gmul,hin,gmN]
 have hlt:gm 15 69643 a.toNat b.toNat<2^(15+1):=gf16.toGf.lt (by omega);rw [hg];generalize gm 15 69643 a.toNat b.toNat=q at hm hlt;have hlt':(q:Int)<65536:=by omega
 have HM:=Za hm;have HF:=Za (hF.alloc (.cells #[.int .i64 a, .int .i64 b] 3));have z1:(a==0)=false:=beq_eq_false_iff_ne.2 (by omega);have z2:(b==0)=false:=beq_eq_false_iff_ne.2 (by omega);have c0:=hF.bits;have c1:=hF.poly;have hl:=hF.lt;have c0':(W.alloc (.cells #[.int .i64 a, .int .i64 b] 3)).cell? ⟨g,0,none⟩=some (.int .i64 16):=(World.cell?_alloc_past _ _ _ hl).trans c0;have c1':(W.alloc (.cells #[.int .i64 a, .int .i64 b] 3)).cell? ⟨g,1,none⟩=some (.int .u32 69643):=(World.cell?_alloc_past _ _ _ hl).trans c1;clear hF hin hm hg hlt;go_enter Tryz.func103,Tryz.ntmps103
 go_wp2_with (first|(go_at_call 151;refine HC.out.mono ?_;rintro e w9 ⟨rfl,m9,rfl⟩)|(go_at_call 152;refine (bXz.calls 40 _ _ _ _ _ HM.out).mono ?_;rintro e w9 ⟨rfl,hB⟩))
 go_ret;exact ⟨rfl,(HF.out.drewN _).below hB,(((BB.refl _ _).alloc _).drewN _).trans (BB.of_below hB _)⟩
theorem cHz.in8 (g : Nat) (S : Nat -> Prop) (a b : Int) (W : World) (hF : Fd W g 8 285 S) (hS : ∀ k, S k -> k < W.heap.size) (ha : 0 < a) (ha' : a < 256) (hb : 0 < b) (hb' : b < 256) :
  Calls Tryz.prog 103 #[.pointer (some ⟨g,0,none⟩), .int .i64 a, .int .i64 b] W fun e w'=>e= .returned (.int .i64 (gmul 8 a b))/\Fd w' g 8 285 S/\BB W w' g:=by
 have hin:(inF 8 a&&inF 8 b)=true:=by simp [inF,fsize];omega
 have HC:=Za (gf_in.calls g 8 285 S (some ⟨W.heap.size,0,none⟩) 2 [a,b] _ (hF.alloc (.cells #[.int .i64 a, .int .i64 b] 3)) (.inl rfl) (C_nums (t:=3) (heap_alloc_new _ _) (by simp)) (by simp));rw [eCz,hin] at HC;obtain ⟨a,rfl⟩:=Int.eq_ofNat_of_zero_le (show 0<=a by omega);obtain ⟨b,rfl⟩:=Int.eq_ofNat_of_zero_le (show 0<=b by omega);obtain ⟨i,j,hi,hj,e1,e2,e3⟩:=tab_mul a b (by omega) (by omega) (by omega) (by omega);have hg:gmul 8 a b=((gm 7 285 a b:Nat):Int):=by simp [gmul,hin,gmN]
 rw [hg, <-e3];have HF:=Za (hF.alloc (.cells #[.int .i64 a, .int .i64 b] 3));have z1:((a:Int)==0)=false:=beq_eq_false_iff_ne.2 (by omega);have z2:((b:Int)==0)=false:=beq_eq_false_iff_ne.2 (by omega);have c0:=hF.bits;have hl:=hF.lt;have c0':(W.alloc (.cells #[.int .i64 a, .int .i64 b] 3)).cell? ⟨g,0,none⟩=some (.int .i64 8):=(World.cell?_alloc_past _ _ _ hl).trans c0;have HS:=Za (show∀k,S k->k<(W.alloc (.cells #[.int .i64 a, .int .i64 b] 3)).heap.size from fun k hk=>by have:=hS k hk;simp;omega);have i1:(0:Int)<=(a:Int):=by omega
 have i2:(0:Int)<=(b:Int):=by omega
 have E1:=Za e1;have E2:=Za e2;have hsum:IntKind.i64.wrap ((i:Int)+(j:Int))=((i+j:Nat):Int):=by rw [IntKind.wrap_i64];omega
 clear hF hin hg hS e1 e2 e3;go_enter Tryz.func103,Tryz.ntmps103
 go_wp2_with (first|(go_at_call 151;refine HC.out.mono ?_;rintro e w9 ⟨rfl,m9,rfl⟩)|(go_at_call 153;refine (gf_ready.calls g S _ (HF.out.drewN _) HS.out).mono ?_;rintro e w1 ⟨rfl,⟨ta,tb,k1,k2,k3⟩,k4,k5, -⟩))
 have c6:w1.cell? ⟨g,6,none⟩=some (.slice (some ⟨tb,0,none⟩) 256 256):=(abz k1 6).trans rfl;have l1:w1.cell? ⟨tb,a,none⟩=some (.int .i64 (i:Int)):=by rw [log_cell k3 a (by omega),E1.out]
 have l2:w1.cell? ⟨tb,b,none⟩=some (.int .i64 (j:Int)):=by rw [log_cell k3 b (by omega),E2.out]
 have C2:=Za (show w1.cell? ⟨g,2,none⟩=some (.int .u32 1) from (abz k1 2).trans rfl);have K4:=Za k4;have K5:=Za k5;clear k1 k2 k3 k4 k5 c0 c0'
 go_region_held3 (fun W'=>W'.cell? ⟨g,6,none⟩=some (.slice (some ⟨tb,0,none⟩) 256 256)/\W'.cell? ⟨tb,a,none⟩=some (.int .i64 (i:Int))/\W'.cell? ⟨tb,b,none⟩=some (.int .i64 (j:Int))) (first|exact ⟨c6,l1,l2⟩|exact ⟨bJz q6 c6,bJz q6 l1,bJz q6 l2⟩) (first|(go_at_call 154;refine (gf_Exp.calls g S (i+j) _ (by omega) (K4.out.drewN 1) (fun k hk=>Zp (HS.out k hk) K5.out.size)).mono ?_;rintro e w3 ⟨rfl,q4,q5,q6'⟩;have q6:=q6' C2.out;clear q6'))
 have Q4:=Za q4;have Q5:=Za (((BB.refl W g).alloc (.cells #[.int .i64 a, .int .i64 b] 3)).drewN m9|>.trans K5.out|>.trans (show BB w1 w3 g from ⟨q5.os,q5.tape,q5.output,q5.size,q5.block⟩));clear q4 q5 q6 c6 l1 l2;go_wp2;go_ret;exact ⟨rfl,Q4.out,Q5.out⟩
theorem cHz.calls (g : Nat) (S : Nat -> Prop) (wb a b : Int) (W : World) (hw : wb = 8 \/ wb = 16) (hF : Fd W g wb (fpoly wb) S) (hS : ∀ k, S k -> k < W.heap.size) :
  Calls Tryz.prog 103 #[.pointer (some ⟨g,0,none⟩), .int .i64 a, .int .i64 b] W fun e w'=>e= .returned (.int .i64 (gmul wb a b))/\Fd w' g wb (fpoly wb) S/\BB W w' g:=by
 by_cases h:(inF wb a&&inF wb b)=true
 ·by_cases ha:a=0
  ·exact cHz.zero g S wb _ a b W hw hF h (.inl ha)
  ·by_cases hb:b=0
   ·exact cHz.zero g S wb _ a b W hw hF h (.inr ⟨ha,hb⟩)
   ·simp only [Bool.and_eq_true,inF,decide_eq_true_eq] at h;rcases hw with rfl|rfl
    ·exact cHz.in8 g S a b W hF hS (by omega) h.1.2 (by omega) h.2.2
    ·exact cHz.in16 g S a b W hF (by omega) h.1.2 (by omega) h.2.2
 ·exact cHz.out g S wb _ a b W hw hF (by simpa using h)
mutual
def bhz.l0:Nat->Int->List Int->Int->Option (List Int)
 |0,_,_,_=>none
 |k+1,x0,x3,x4=>if x0>1 then (if x4=0 then (none) else (if (Int.tmod x0 x4)=0 then (if x3.length<17592186044416 then (bhz.j1 k x0 (x3++ [x4]) x4) else (none)) else (bhz.j1 k x0 x3 x4))) else (some x3)
def bhz.j1:Nat->Int->List Int->Int->Option (List Int)
 |0,_,_,_=>none
 |k+1,x0,x3,x4=>bhz.l1 k x0 x3 x4
def bhz.l1:Nat->Int->List Int->Int->Option (List Int)
 |0,_,_,_=>none
 |k+1,x0,x3,x4=>if x4=0 then (none) else (if (Int.tmod x0 x4)=0 then (bhz.l1 k (wrap64 (Int.tdiv x0 x4)) x3 x4) else (bhz.l0 k x0 x3 (wrap64 (x4+1))))
end
def bhz.f (k:Nat) (a0:Int):Option (List Int):=bhz.l0 k a0 ([] :List Int) 2
theorem bhz.calls (k : Nat) (a0 : Int) (r : List Int) (w : World) (h : bhz.f k a0 = some r) :
  Calls Tryz.prog 165 #[.int .i64 a0] w fun e w'=> ∃v0_:Value,e= .returned (v0_)/\Kd.R (Kd.int .i64) 3 w' w.heap.size (fun _=>True) v0_ r/\Below w.heap.size w w':=by
 have HB:=Za (Zw w.heap.size w);have H:=h;clear h;unfold bhz.f at H;have H':=Za H;clear H;go_enter Tryz.func165,Tryz.ntmps165;go_wp2
 go_loopg [0,3,4] k (fun kq v0 v3 v4 w'=> ∃(x0_1:Int) (x3_1:List Int) (x4_1:Int),v0= .int .i64 x0_1/\v4= .int .i64 x4_1/\Aside0 (bhz.l0 kq x0_1 x3_1 x4_1=some r)/\Aside0 (kq<=k)/\Aside0 (Kd.R (Kd.int .i64) 3 w' w.heap.size (fun _=>True) v3 x3_1)/\Aside0 (Below w.heap.size w w'))
 case atStart=>exact ⟨(a0),(([] :List Int)),(2),sd_,sd_,H',⟨Zv _⟩,⟨nl_⟩,⟨bl_⟩⟩
 clear H';obtain ⟨x0_1,x3_1,x4_1,rfl,rfl,HA,HK1,HO_3,HB⟩:=hrel;rcases gk with _|k1
 ·exact Yf HA.out (by simp [bhz.l0])
 have H:=HA.out;clear HA;simp only [bhz.l0] at H;by_cases c2:x0_1>1
 rotate_left
 ·rw [Yb c2] at H;have c2b0:decide (1<x0_1)=false:=Ze c2;clear c2;obtain rfl:=Zn H;go_wp2;go_ret;exact ⟨_,er_,xd_ HO_3.out,bl_⟩
 rw [Ya c2] at H;have c2b0:decide (1<x0_1)=true:=Zd c2;clear c2;by_cases c3:x4_1=0
 ·rw [Ya c3] at H;exact Yf H (by simp)
 ·rw [Yb c3] at H;have c3b0:(x4_1==0)=false:=Zq c3;have c3b1:(x4_1 !=0)=true:=Yd c3;have HC4:=Za H;clear H
  go_upto_if 12 with (fail)
  go_cut [3] (fun v3 wc=> ∃(kq:Nat) (x3_3:List Int),Aside0 (bhz.j1 kq x0_1 x3_3 x4_1=some r)/\Aside0 (kq<=k1)/\Aside0 (Kd.R (Kd.int .i64) 3 wc w.heap.size (fun _=>True) v3 x3_3)/\Aside0 (Below w.heap.size w wc))
  case first=>
   have H:=HC4.out;clear HC4;by_cases c5:(Int.tmod x0_1 x4_1)=0
   rotate_left
   ·rw [Yb c5] at H;have c5b0:((Int.tmod x0_1 x4_1)==0)=false:=Zq c5;have c5b1:((Int.tmod x0_1 x4_1) !=0)=true:=Yd c5
    (first|rw [c5b0] |(simp only [i64_w,i32_w];rw [c5b0])|skip)
    have H':=Za H;clear H;go_wp2
    go_meet
    case rel=>exact ⟨_,(x3_1),H',⟨by have:=HK1.out;first|omega|exact Zv _⟩,⟨xd_ HO_3.out⟩,⟨bl_⟩⟩
   rw [Ya c5] at H;have c5b0:((Int.tmod x0_1 x4_1)==0)=true:=Ye c5;have c5b1:((Int.tmod x0_1 x4_1) !=0)=false:=Yc c5;clear c5
   (first|rw [c5b0] |(simp only [i64_w,i32_w];rw [c5b0])|skip)
   by_cases c6:x3_1.length<17592186044416
   rotate_left
   ·rw [Yb c6] at H;exact Yf H (by simp)
   rw [Ya c6] at H;have LMc6:=Za c6;clear c6;obtain ⟨y277,hy277⟩: ∃y_:List Int,y_=(x3_1++ [x4_1]):=⟨_,rfl⟩
   first|rw [Zl, <-hy277] at H|rw [<-hy277] at H
   (try dsimp only at H)
   have Ny277:=Za hy277;clear hy277;have H':=Za H;clear H
   go_wp2_with (first|((with_reducible refine aoz (b:= .append) (xs:= #[.tmp 13, .tmp 15]) rfl ?_);at_builtin;refine Kd.bmz (Kd.int .i64) (w0:=w) w.heap.size rfl (.tmp 13) (.tmp 15) 57 3 (.int .i64 0) 8 rfl Tryz.underlying57 info3 rfl (by decide) (by omega) u3 x3_1 x4_1 [.int .i64 x4_1] (fun _=>True) (fun _=>False) rfl rfl ?aP (fun _ hk=>hk.elim) ?aF ?aO ?aB ?aS ?aL ?_;(case aP=>exact rfl);(case aB=>exact bl_);(case aF=>exact (fun _ _=>trivial));(case aO=>exact (xd_ HO_3.out));(case aS=>exact (adz bl_));(case aL=>have:=LMc6.out;omega);intro v278 w7 ho hb hg hat;rw [<-Ny277.out] at ho;have n_:=Zb (Za (hb)) (Za (ho));clear HB HO_3;obtain ⟨HB,HO279⟩:=n_;clear ho hb hg hat))
   go_meet
   case rel=>exact ⟨_,(y277),H',⟨by have:=HK1.out;first|omega|exact Zv _⟩,⟨xd_ HO279.out⟩,⟨bl_⟩⟩
  case rest=>
   clear HC4;clear c2b0 c3 c3b0 c3b1;obtain ⟨kq,x3_3,HA,HJ3,HO_3,HB⟩:=hcut;rcases kq with _|kj3
   ·exact Yf HA.out (by simp [bhz.j1])
   have H:=HA.out;clear HA;simp only [bhz.j1] at H;have H':=Za H;clear H;go_wp2
   go_loopg [0] kj3 (fun kq v0 w'=> ∃(x0_3:Int),v0= .int .i64 x0_3/\Aside0 (bhz.l1 kq x0_3 x3_3 x4_1=some r)/\Aside0 (kq<=kj3)/\Aside0 (Kd.R (Kd.int .i64) 3 w' w.heap.size (fun _=>True) u3 x3_3)/\Aside0 (Below w.heap.size w w'))
   case atStart=>exact ⟨(x0_1),sd_,H',⟨Zv _⟩,⟨xd_ HO_3.out⟩,⟨bl_⟩⟩
   clear H';obtain ⟨x0_3,rfl,HA,HK3,HO_3,HB⟩:=hrel;rcases gk with _|k3
   ·exact Yf HA.out (by simp [bhz.l1])
   have H:=HA.out;clear HA;simp only [bhz.l1] at H;by_cases c8:x4_1=0
   ·rw [Ya c8] at H;exact Yf H (by simp)
   ·rw [Yb c8] at H;have c8b0:(x4_1==0)=false:=Zq c8;have c8b1:(x4_1 !=0)=true:=Yd c8;by_cases c9:(Int.tmod x0_3 x4_1)=0
    ·rw [Ya c9] at H;have c9b0:((Int.tmod x0_3 x4_1)==0)=true:=Ye c9;have c9b1:((Int.tmod x0_3 x4_1) !=0)=false:=Yc c9;clear c9;have H':=Za H;clear H;go_wp2
     go_roundg k3
     case measure=>have:=HK1.out;have:=HJ3.out;have:=HK3.out;omega
     case rel=>exact ⟨(wrap64 (Int.tdiv x0_3 x4_1)),sd_,H',⟨by have:=HK1.out;have:=HJ3.out;have:=HK3.out;omega⟩,⟨xd_ HO_3.out⟩,⟨bl_⟩⟩
    ·rw [Yb c9] at H;have c9b0:((Int.tmod x0_3 x4_1)==0)=false:=Zq c9;have c9b1:((Int.tmod x0_3 x4_1) !=0)=true:=Yd c9;have H':=Za H;clear H;go_wp2
     go_roundg k3
     case measure=>have:=HK1.out;have:=HJ3.out;have:=HK3.out;omega
     case rel=>exact ⟨(x0_3),(x3_3),(wrap64 (x4_1+1)),sd_,sd_,H',⟨by have:=HK1.out;have:=HJ3.out;have:=HK3.out;omega⟩,⟨xd_ HO_3.out⟩,⟨bl_⟩⟩
def chz.l0:Nat->Int->Int->Int->Int->Option (Int)
 |0,_,_,_,_=>none
 |k+1,x0,x1,x2,x7=>if x1>0 then (if (Go.bits .and .i64 x1 1)=1 then ((bXz.f k x7 x0 x2).bind fun t281=>((bXz.f k x0 x0 x2).bind fun t282=>(chz.l0 k t282 (x1 / 2) x2 t281))) else ((bXz.f k x0 x0 x2).bind fun t283=>(chz.l0 k t283 (x1 / 2) x2 x7))) else (some x7)
def chz.f (k:Nat) (a0:Int) (a1:Int) (a2:Int):Option (Int):=(byz.f k 1 a2).bind fun t280=>(chz.l0 k a0 a1 a2 t280)
theorem chz.calls (k : Nat) (a0 : Int) (a1 : Int) (a2 : Int) (r : Int) (w : World) (h : chz.f k a0 a1 a2 = some r) :
  Calls Tryz.prog 166 #[.int .u32 a0, .int .i64 a1, .int .u32 a2] w fun e w'=>e= .returned (.int .u32 r)/\Below w.heap.size w w':=by
 have HB:=Za (Zw w.heap.size w);have H:=h;clear h;unfold chz.f at H;obtain ⟨t280,A4,H⟩:=ob_ H
 (try dsimp only at H)
 have H':=Za H;clear H;go_enter Tryz.func166,Tryz.ntmps166
 go_wp2_with (first|((with_reducible refine aaz (f:=164) rfl ?_);refine gl_ (some 9) Tryz.func164 #[.int .u64 1, .int .u32 a2] ?_;(with_reducible refine (byz.calls k 1 a2 t280 _ A4.out).mono ?_);rintro e w' ⟨rfl,⟨nd,rfl⟩⟩;refine ⟨_,rfl,?_⟩))
 go_loopg [0,1,7] k (fun kq v0 v1 v7 w'=> ∃(x0_1:Int) (x1_1:Int) (x7_1:Int),v0= .int .u32 x0_1/\v1= .int .i64 x1_1/\v7= .int .u32 x7_1/\Aside0 (chz.l0 kq x0_1 x1_1 a2 x7_1=some r)/\Aside0 (kq<=k)/\Aside0 (Below w.heap.size w w'))
 case atStart=>exact ⟨(a0),(a1),(t280),sd_,sd_,sd_,H',⟨Zv _⟩,⟨bl_⟩⟩
 clear H';obtain ⟨x0_1,x1_1,x7_1,rfl,rfl,rfl,HA,HK1,HB⟩:=hrel;rcases gk with _|k1
 ·exact Yf HA.out (by simp [chz.l0])
 have H:=HA.out;clear HA;simp only [chz.l0] at H;by_cases c5:x1_1>0
 rotate_left
 ·rw [Yb c5] at H;have c5b0:decide (0<x1_1)=false:=Ze c5;clear c5;obtain rfl:=Zn H;go_wp2;go_ret;exact ⟨er_,bl_⟩
 rw [Ya c5] at H;have c5b0:decide (0<x1_1)=true:=Zd c5;clear c5;by_cases c6:(Go.bits .and .i64 x1_1 1)=1
 rotate_left
 ·rw [Yb c6] at H;have c6b0:((Go.bits .and .i64 x1_1 1)==1)=false:=Zq c6;have c6b1:((Go.bits .and .i64 x1_1 1) !=1)=true:=Yd c6;obtain ⟨t283,A11,H⟩:=ob_ H
  (try dsimp only at H)
  have H':=Za H;clear H
  go_wp2_with (first|((with_reducible refine aaz (f:=152) rfl ?_);refine gl_ (some 24) Tryz.func152 #[.int .u32 x0_1, .int .u32 x0_1, .int .u32 a2] ?_;(with_reducible refine (bXz.calls k1 x0_1 x0_1 a2 t283 _ A11.out).mono ?_);rintro e w12 ⟨rfl,hb⟩;refine ⟨_,rfl,?_⟩;have n0_:=hs_ HB hb;clear HB;have HB:=n0_;clear n0_;(try clear hb)))
  go_roundg k1
  case measure=>have:=HK1.out;omega
  case rel=>exact ⟨(t283),(x1_1 / 2),(x7_1),sd_,sd_,sd_,H',⟨by have:=HK1.out;omega⟩,⟨bl_⟩⟩
 rw [Ya c6] at H;have c6b0:((Go.bits .and .i64 x1_1 1)==1)=true:=Ye c6;have c6b1:((Go.bits .and .i64 x1_1 1) !=1)=false:=Yc c6;clear c6;obtain ⟨t281,A7,H⟩:=ob_ H
 (try dsimp only at H)
 obtain ⟨t282,A8,H⟩:=ob_ H
 (try dsimp only at H)
 have H':=Za H;clear H
 go_wp2_with (first|((with_reducible refine aaz (f:=152) rfl ?_);refine gl_ (some 20) Tryz.func152 #[.int .u32 x7_1, .int .u32 x0_1, .int .u32 a2] ?_;(with_reducible refine (bXz.calls k1 x7_1 x0_1 a2 t281 _ A7.out).mono ?_);rintro e w9 ⟨rfl,hb⟩;refine ⟨_,rfl,?_⟩;have n0_:=hs_ HB hb;clear HB;have HB:=n0_;clear n0_;(try clear hb))|((with_reducible refine aaz (f:=152) rfl ?_);refine gl_ (some 24) Tryz.func152 #[.int .u32 x0_1, .int .u32 x0_1, .int .u32 a2] ?_;(with_reducible refine (bXz.calls k1 x0_1 x0_1 a2 t282 _ A8.out).mono ?_);rintro e w10 ⟨rfl,hb⟩;refine ⟨_,rfl,?_⟩;have n0_:=hs_ HB hb;clear HB;have HB:=n0_;clear n0_;(try clear hb)))
 go_roundg k1
 case measure=>have:=HK1.out;omega
 case rel=>exact ⟨(t282),(x1_1 / 2),(t281),sd_,sd_,sd_,H',⟨by have:=HK1.out;omega⟩,⟨bl_⟩⟩
end Go.Proofs.Xc
end
