-- Joined texts of this work (wip/tools/bundle.py).
import Derived.Laws.CopyOwn
import Derived.Laws.BitsAllLaws
import Derived.Maps.OwnSet
import Derived.Maps.Views
import Derived.RangeFuncOwn
import Derived.Test.YtpdakdcmahlghaaGreatBReconWhich13
set_option maxHeartbeats 8000000
set_option maxRecDepth 100000
set_option linter.unusedVariables false
set_option linter.unusedSimpArgs false
section
namespace Go.Proofs.Xc
open Go.RowKit Go.Proofs.Pw Go.Proofs.Pl Go.Proofs.Pm Tryz
attribute [local go_sem] a7z a8z bgz bhz aVz aWz a9z baz
theorem C_nums {w:World} {g:Nat} {t:TypeId} {xs:List Int} (h:w.heap[g]?=some (.cells (nums .i64 xs).toArray t (0,0))) (hl:xs.length<=9223372036854775807):Kd.C (Kd.int .i64) w (some ⟨g,0,none⟩) xs.length xs:=by
 refine ⟨rfl,hl,fun _=>⟨_,rfl,fun j p hp=>⟨[.int .i64 p],rfl,rfl,fun i u hu=> ?_⟩⟩⟩;obtain ⟨hj,rfl⟩:=Zk hp
 cases i with
 |succ i=>simp at hu
 |zero=>
  obtain rfl:Value.int .i64 xs[j] =u:=by simpa using hu
  have e:(⟨g,0,none⟩:Addr).add (j*(Kd.int .i64).sz+0)=⟨g,j,none⟩:=by
   show (⟨g,0,none⟩:Addr).add (j*1+0)=_;unfold Addr.add;split<;>simp_all
  rw [e,abz h j];simp [nums,hj]
theorem ePz (wb a b:Int):allIn wb [a,b] =(inF wb a&&inF wb b):=by simp [allIn,inF]
theorem allIn_one (wb a:Int):allIn wb [a] =inF wb a:=by simp [allIn,inF]
def fpoly (wb:Int):Int:=if wb=8 then 285 else 69643
theorem cLz.o (g:Nat) (S:Nat->Prop) (wb p a b:Int) (W:World) (hw:wb=8\/wb=16) (hF:Fd W g wb p S) (h:(inF wb a&&inF wb b)=false):
  Calls prog 103 #[.pointer (some ⟨g,0,none⟩), .int .i64 a, .int .i64 b] W fun e w'=>e= .returned (.int .i64 (gmul wb a b))/\Fd w' g wb p S/\BB W w' g:=by
 rw [gmul_out h];have HC:=Za (gf_in.calls g wb p S (some ⟨W.heap.size,0,none⟩) 2 [a,b] _ (hF.alloc (.cells #[.int .i64 a, .int .i64 b] 3)) hw (C_nums (t:=3) (heap_alloc_new _ _) (by simp)) (by simp));rw [ePz,h] at HC;have HF:=Za hF;clear hF h;go_enter func103,ntmps103
 go_wp2_with (first|(go_at_call 151;refine HC.o.mono ?_;rintro e w9 ⟨rfl,m9,rfl⟩))
 go_ret;exact ⟨rfl,(HF.o.alloc _).drewN _,((BB.refl _ _).alloc _).drewN _⟩
theorem cLz.zero (g:Nat) (S:Nat->Prop) (wb p a b:Int) (W:World) (hw:wb=8\/wb=16) (hF:Fd W g wb p S) (h:(inF wb a&&inF wb b)=true) (h0:a=0\/(a≠0/\b=0)):
  Calls prog 103 #[.pointer (some ⟨g,0,none⟩), .int .i64 a, .int .i64 b] W fun e w'=>e= .returned (.int .i64 (gmul wb a b))/\Fd w' g wb p S/\BB W w' g:=by
 have HC:=Za (gf_in.calls g wb p S (some ⟨W.heap.size,0,none⟩) 2 [a,b] _ (hF.alloc (.cells #[.int .i64 a, .int .i64 b] 3)) hw (C_nums (t:=3) (heap_alloc_new _ _) (by simp)) (by simp));rw [ePz,h] at HC;have HF:=Za hF;clear hF h;rcases h0 with rfl|⟨ha,rfl⟩
 ·rw [d7z];go_enter func103,ntmps103
  go_wp2_with (first|(go_at_call 151;refine HC.o.mono ?_;rintro e w9 ⟨rfl,m9,rfl⟩))
  go_ret;exact ⟨rfl,(HF.o.alloc _).drewN _,((BB.refl _ _).alloc _).drewN _⟩
 ·rw [eMz];have hb:(a==0)=false:=beq_eq_false_iff_ne.2 ha;clear ha;go_enter func103,ntmps103
  go_wp2_with (first|(go_at_call 151;refine HC.o.mono ?_;rintro e w9 ⟨rfl,m9,rfl⟩))
  go_ret;exact ⟨rfl,(HF.o.alloc _).drewN _,((BB.refl _ _).alloc _).drewN _⟩
theorem cLz.in16 (g:Nat) (S:Nat->Prop) (a b:Int) (W:World) (hF:Fd W g 16 69643 S) (ha:0<a) (ha':a<65536) (hb:0<b) (hb':b<65536):
  Calls prog 103 #[.pointer (some ⟨g,0,none⟩), .int .i64 a, .int .i64 b] W fun e w'=>e= .returned (.int .i64 (gmul 16 a b))/\Fd w' g 16 69643 S/\BB W w' g:=by
 have hin:(inF 16 a&&inF 16 b)=true:=by simp [inF,fsize];omega
 have HC:=Za (gf_in.calls g 16 69643 S (some ⟨W.heap.size,0,none⟩) 2 [a,b] _ (hF.alloc (.cells #[.int .i64 a, .int .i64 b] 3)) (.inr rfl) (C_nums (t:=3) (heap_alloc_new _ _) (by simp)) (by simp));rw [ePz,hin] at HC;have hm:=poly_mulmod16 a.toNat b.toNat (by omega) (by omega);rw [Int.toNat_of_nonneg (by omega),Int.toNat_of_nonneg (by omega)] at hm;have hg:gmul 16 a b=((gm 15 69643 a.toNat b.toNat:Nat):Int):=by simp [gmul,hin,gmN]
 have hlt:gm 15 69643 a.toNat b.toNat<2^(15+1):=gf16.toGf.lt (by omega);rw [hg];generalize gm 15 69643 a.toNat b.toNat=q at hm hlt;have hlt':(q:Int)<65536:=by omega
 have HM:=Za hm;have HF:=Za (hF.alloc (.cells #[.int .i64 a, .int .i64 b] 3));have z1:(a==0)=false:=beq_eq_false_iff_ne.2 (by omega);have z2:(b==0)=false:=beq_eq_false_iff_ne.2 (by omega);have c0:=hF.bits;have c1:=hF.poly;have hl:=hF.lt;have c0':(W.alloc (.cells #[.int .i64 a, .int .i64 b] 3)).cell? ⟨g,0,none⟩=some (.int .i64 16):=(World.cell?_alloc_past _ _ _ hl).trans c0;have c1':(W.alloc (.cells #[.int .i64 a, .int .i64 b] 3)).cell? ⟨g,1,none⟩=some (.int .u32 69643):=(World.cell?_alloc_past _ _ _ hl).trans c1;clear hF hin hm hg hlt;go_enter func103,ntmps103
 go_wp2_with (first|(go_at_call 151;refine HC.o.mono ?_;rintro e w9 ⟨rfl,m9,rfl⟩)|(go_at_call 152;refine (bQz.calls 40 _ _ _ _ _ HM.o).mono ?_;rintro e w9 ⟨rfl,hB⟩))
 go_ret;exact ⟨rfl,(HF.o.drewN _).below hB,(((BB.refl _ _).alloc _).drewN _).trans (BB.of_below hB _)⟩
theorem cLz.in8 (g:Nat) (S:Nat->Prop) (a b:Int) (W:World) (hF:Fd W g 8 285 S) (hS: ∀k,S k->k<W.heap.size) (ha:0<a) (ha':a<256) (hb:0<b) (hb':b<256):
  Calls prog 103 #[.pointer (some ⟨g,0,none⟩), .int .i64 a, .int .i64 b] W fun e w'=>e= .returned (.int .i64 (gmul 8 a b))/\Fd w' g 8 285 S/\BB W w' g:=by
 have hin:(inF 8 a&&inF 8 b)=true:=by simp [inF,fsize];omega
 have HC:=Za (gf_in.calls g 8 285 S (some ⟨W.heap.size,0,none⟩) 2 [a,b] _ (hF.alloc (.cells #[.int .i64 a, .int .i64 b] 3)) (.inl rfl) (C_nums (t:=3) (heap_alloc_new _ _) (by simp)) (by simp));rw [ePz,hin] at HC;obtain ⟨a,rfl⟩:=Int.eq_ofNat_of_zero_le (show 0<=a by omega);obtain ⟨b,rfl⟩:=Int.eq_ofNat_of_zero_le (show 0<=b by omega);obtain ⟨i,j,hi,hj,e1,e2,e3⟩:=tab_mul a b (by omega) (by omega) (by omega) (by omega);have hg:gmul 8 a b=((gm 7 285 a b:Nat):Int):=by simp [gmul,hin,gmN]
 rw [hg, <-e3];have HF:=Za (hF.alloc (.cells #[.int .i64 a, .int .i64 b] 3));have z1:((a:Int)==0)=false:=beq_eq_false_iff_ne.2 (by omega);have z2:((b:Int)==0)=false:=beq_eq_false_iff_ne.2 (by omega);have c0:=hF.bits;have hl:=hF.lt;have c0':(W.alloc (.cells #[.int .i64 a, .int .i64 b] 3)).cell? ⟨g,0,none⟩=some (.int .i64 8):=(World.cell?_alloc_past _ _ _ hl).trans c0;have HS:=Za (show∀k,S k->k<(W.alloc (.cells #[.int .i64 a, .int .i64 b] 3)).heap.size from fun k hk=>by have:=hS k hk;simp;omega);have i1:(0:Int)<=(a:Int):=by omega
 have i2:(0:Int)<=(b:Int):=by omega
 have E1:=Za e1;have E2:=Za e2;have hsum:IntKind.i64.wrap ((i:Int)+(j:Int))=((i+j:Nat):Int):=by rw [IntKind.wrap_i64];omega
 clear hF hin hg hS e1 e2 e3;go_enter func103,ntmps103
 go_wp2_with (first|(go_at_call 151;refine HC.o.mono ?_;rintro e w9 ⟨rfl,m9,rfl⟩)|(go_at_call 153;refine (gf_ready.calls g S _ (HF.o.drewN _) HS.o).mono ?_;rintro e w1 ⟨rfl,⟨ta,tb,k1,k2,k3⟩,k4,k5, -⟩))
 have c6:w1.cell? ⟨g,6,none⟩=some (.slice (some ⟨tb,0,none⟩) 256 256):=(abz k1 6).trans rfl;have l1:w1.cell? ⟨tb,a,none⟩=some (.int .i64 (i:Int)):=by rw [log_cell k3 a (by omega),E1.o]
 have l2:w1.cell? ⟨tb,b,none⟩=some (.int .i64 (j:Int)):=by rw [log_cell k3 b (by omega),E2.o]
 have C2:=Za (show w1.cell? ⟨g,2,none⟩=some (.int .u32 1) from (abz k1 2).trans rfl);have K4:=Za k4;have K5:=Za k5;clear k1 k2 k3 k4 k5 c0 c0'
 go_region_held3 (fun W'=>W'.cell? ⟨g,6,none⟩=some (.slice (some ⟨tb,0,none⟩) 256 256)/\W'.cell? ⟨tb,a,none⟩=some (.int .i64 (i:Int))/\W'.cell? ⟨tb,b,none⟩=some (.int .i64 (j:Int))) (first|exact ⟨c6,l1,l2⟩|exact ⟨a3z q6 c6,a3z q6 l1,a3z q6 l2⟩) (first|(go_at_call 154;refine (gf_Exp.calls g S (i+j) _ (by omega) (K4.o.drewN 1) (fun k hk=>Zp (HS.o k hk) K5.o.size)).mono ?_;rintro e w3 ⟨rfl,q4,q5,q6'⟩;have q6:=q6' C2.o;clear q6'))
 have Q4:=Za q4;have Q5:=Za (((BB.refl W g).alloc (.cells #[.int .i64 a, .int .i64 b] 3)).drewN m9|>.trans K5.o|>.trans (show BB w1 w3 g from ⟨q5.os,q5.tape,q5.output,q5.size,q5.block⟩));clear q4 q5 q6 c6 l1 l2;go_wp2;go_ret;exact ⟨rfl,Q4.o,Q5.o⟩
theorem cLz.calls (g:Nat) (S:Nat->Prop) (wb a b:Int) (W:World) (hw:wb=8\/wb=16) (hF:Fd W g wb (fpoly wb) S) (hS: ∀k,S k->k<W.heap.size):
  Calls prog 103 #[.pointer (some ⟨g,0,none⟩), .int .i64 a, .int .i64 b] W fun e w'=>e= .returned (.int .i64 (gmul wb a b))/\Fd w' g wb (fpoly wb) S/\BB W w' g:=by
 by_cases h:(inF wb a&&inF wb b)=true
 ·by_cases ha:a=0
  ·exact cLz.zero g S wb _ a b W hw hF h (.inl ha)
  ·by_cases hb:b=0
   ·exact cLz.zero g S wb _ a b W hw hF h (.inr ⟨ha,hb⟩)
   ·simp only [Bool.and_eq_true,inF,decide_eq_true_eq] at h;rcases hw with rfl|rfl
    ·exact cLz.in8 g S a b W hF hS (by omega) h.1.2 (by omega) h.2.2
    ·exact cLz.in16 g S a b W hF (by omega) h.1.2 (by omega) h.2.2
 ·exact cLz.o g S wb _ a b W hw hF (by simpa using h)
def bnz.f (a0:Int):Option (ByteArray×Int×Int×Int×Int×Bool):=
 if a0=1 then some (⟨#[106,118]⟩,8,285,106,4,true) else if a0=2 then some (⟨#[106,99]⟩,16,69643,106,4,true)
 else if a0=3 then some (⟨#[105,114]⟩,8,285,105,3,true) else if a0=4 then some (⟨#[105,99]⟩,8,285,105,4,true)
 else if a0=5 then some (⟨#[98,98]⟩,8,285,98,4,true) else if a0=6 then some (⟨#[107,112]⟩,8,285,112,4,true)
 else some (⟨#[]⟩,0,0,0,0,false)
theorem bnz.low (a0:Int) (w:World) (h:a0<1):
  Calls prog 75 #[.int .i64 a0] w fun e w'=>e= .returned (.tuple #[.agg #[.string ⟨#[]⟩, .int .i64 0, .int .u32 0, .int .u8 0, .int .i64 0], .bool false])/\Below w.heap.size w w':=by
 go_enter func75,ntmps75;go_wp2;exact bodyPost_ret (v:= .tuple #[.agg #[.string ⟨#[]⟩, .int .i64 0, .int .u32 0, .int .u8 0, .int .i64 0], .bool false]) (by simp [results,results75,go_sem]) rfl ⟨rfl,(Zw _ _).alloc (Zv _) _⟩
theorem bnz.high (a0:Int) (w:World) (h:6<a0):
  Calls prog 75 #[.int .i64 a0] w fun e w'=>e= .returned (.tuple #[.agg #[.string ⟨#[]⟩, .int .i64 0, .int .u32 0, .int .u8 0, .int .i64 0], .bool false])/\Below w.heap.size w w':=by
 have h1: ¬a0<1:=by omega
 go_enter func75,ntmps75;go_wp2;exact bodyPost_ret (v:= .tuple #[.agg #[.string ⟨#[]⟩, .int .i64 0, .int .u32 0, .int .u8 0, .int .i64 0], .bool false]) (by simp [results,results75,go_sem]) rfl ⟨rfl,(Zw _ _).alloc (Zv _) _⟩
def dKz.v:Value:= .agg #[.string ⟨#[106,118]⟩, .int .i64 8, .int .u32 285, .int .u8 106, .int .i64 4, .string ⟨#[106,99]⟩, .int .i64 16, .int .u32 69643, .int .u8 106, .int .i64 4, .string ⟨#[105,114]⟩, .int .i64 8, .int .u32 285, .int .u8 105, .int .i64 3, .string ⟨#[105,99]⟩, .int .i64 8, .int .u32 285, .int .u8 105, .int .i64 4, .string ⟨#[98,98]⟩, .int .i64 8, .int .u32 285, .int .u8 98, .int .i64 4, .string ⟨#[107,112]⟩, .int .i64 8, .int .u32 285, .int .u8 112, .int .i64 4]
theorem dKz.any (w:World):
  Calls prog 111 #[] w fun e w'=>e= .returned dKz.v/\Below w.heap.size w w':=by
 go_enter func111,ntmps111
 go_wp2_with ((with_reducible refine dbz rfl ?_);refine wpList_store_row rfl 143 _ _ rfl w.heap.size _ rfl rfl 143 _ (heap_alloc_new _ _) kr_ rfl kr_ ?_)
 exact bodyPost_ret (results_cell_row results111 _ _ w.heap.size _ _ (0,0) _ rfl (setRow_heap _ _ _ _ _ _ (heap_alloc_new _ _)) underlying143 rfl kr_) rfl ⟨rfl,below_setRow ((Zw _ _).alloc (Zv _) _) (Zv _) _⟩
theorem bnz.at_ (a0:Int) (s:ByteArray) (x2 x3 x4 x5:Int) (h0: ¬a0<1) (h6: ¬6<a0) (hi: ∀w,(Instr.index 143 dKz.v (.int .i64 (a0 - 1))).run prog w= .ok (.agg #[.string s, .int .i64 x2, .int .u32 x3, .int .u8 x4, .int .i64 x5]) w) (w:World):
  Calls prog 75 #[.int .i64 a0] w fun e w'=>e= .returned (.tuple #[.agg #[.string s, .int .i64 x2, .int .u32 x3, .int .u8 x4, .int .i64 x5], .bool true])/\Below w.heap.size w w':=by
 go_enter func75,ntmps75
 go_wp2_with fail
 refine (dKz.any _).mono ?_;rintro e w1 ⟨rfl,hb⟩;have hh:w1.heap[w.heap.size]?=some (.cells #[.string ⟨#[]⟩, .int .i64 0, .int .u32 0, .int .u8 0, .int .i64 0] 109 (0,0)):=(hb.block _ (by simp)).trans (heap_alloc_new _ _)
 go_wp2_with ((with_reducible refine dbz rfl ?_);(refine wpList_store_row rfl 109 _ _ rfl w.heap.size _ rfl rfl 109 _ hh kr_ rfl kr_ ?_))
 refine bodyPost_ret (v:= .tuple #[.agg #[.string s, .int .i64 x2, .int .u32 x3, .int .u8 x4, .int .i64 x5], .bool true]) ?_ rfl ⟨rfl,below_setRow (((Zw _ _).alloc (Zv _) _).trans (hb.mono (by simp))) (Zv _) _⟩;rw [results_cell_tmp results75];simp only [Array.getD_eq_getD_getElem?,List.getElem?_toArray,List.getElem?_cons_succ,List.getElem?_cons_zero,Option.getD_some,asAddr,Sem.run_pure,Result.andThen_ok];rw [run_loadVar_row _ w.heap.size 109 109 _ (0,0) _ (setRow_heap _ _ _ _ _ _ hh) underlying109 rfl kr_];rfl
theorem bnz.calls (a0:Int) (r1:ByteArray) (r2 r3 r4 r5:Int) (r6:Bool) (w:World) (h:bnz.f a0=some (r1,r2,r3,r4,r5,r6)):
  Calls prog 75 #[.int .i64 a0] w fun e w'=>e= .returned (.tuple #[.agg #[.string r1, .int .i64 r2, .int .u32 r3, .int .u8 r4, .int .i64 r5], .bool r6])/\Below w.heap.size w w':=by
 unfold bnz.f at h;by_cases h1:a0=1
 ·subst h1;simp at h;obtain ⟨rfl,rfl,rfl,rfl,rfl,rfl⟩:=h;exact bnz.at_ 1 _ _ _ _ _ (by decide) (by decide) (fun _=>by kernel_rfl) w
 rw [Yb h1] at h;by_cases h2:a0=2
 ·subst h2;simp at h;obtain ⟨rfl,rfl,rfl,rfl,rfl,rfl⟩:=h;exact bnz.at_ 2 _ _ _ _ _ (by decide) (by decide) (fun _=>by kernel_rfl) w
 rw [Yb h2] at h;by_cases h3:a0=3
 ·subst h3;simp at h;obtain ⟨rfl,rfl,rfl,rfl,rfl,rfl⟩:=h;exact bnz.at_ 3 _ _ _ _ _ (by decide) (by decide) (fun _=>by kernel_rfl) w
 rw [Yb h3] at h;by_cases h4:a0=4
 ·subst h4;simp at h;obtain ⟨rfl,rfl,rfl,rfl,rfl,rfl⟩:=h;exact bnz.at_ 4 _ _ _ _ _ (by decide) (by decide) (fun _=>by kernel_rfl) w
 rw [Yb h4] at h;by_cases h5:a0=5
 ·subst h5;simp at h;obtain ⟨rfl,rfl,rfl,rfl,rfl,rfl⟩:=h;exact bnz.at_ 5 _ _ _ _ _ (by decide) (by decide) (fun _=>by kernel_rfl) w
 rw [Yb h5] at h;by_cases h6:a0=6
 ·subst h6;simp at h;obtain ⟨rfl,rfl,rfl,rfl,rfl,rfl⟩:=h;exact bnz.at_ 6 _ _ _ _ _ (by decide) (by decide) (fun _=>by kernel_rfl) w
 rw [Yb h6] at h;simp at h;obtain ⟨rfl,rfl,rfl,rfl,rfl,rfl⟩:=h;by_cases h0:a0<1
 ·exact bnz.low a0 w h0
 ·exact bnz.high a0 w (by omega)
theorem prim8:boz.f 400 285=some true:=by kernel_rfl
theorem prim16:boz.f 1500 69643=some true:=by kernel_rfl
theorem deg8:ciz.f 285=some 8:=by kernel_rfl
theorem deg16:ciz.f 69643=some 16:=by kernel_rfl
def Fresh (w:World) (g:Nat) (wb:Int):Prop:=w.heap[g]?=some (.cells (freshF wb (fpoly wb)) 172 (0,0))
theorem Fresh.fd {w:World} {g:Nat} {wb:Int} (h:Fresh w g wb) (S:Nat->Prop) (hg: ¬S g):Fd w g wb (fpoly wb) S:=⟨hg, .inl h⟩
theorem gf_New.calls (wb:Int) (hw:wb=8\/wb=16) (W:World):
  Calls prog 81 #[.int .i64 wb, .int .u32 (fpoly wb)] W fun e w'=> ∃g:Nat,e= .returned (.pointer (some ⟨g,0,none⟩))/\Fresh w' g wb/\W.heap.size<=g/\Below W.heap.size W w':=by
 rcases hw with rfl|rfl
 ·have HP:=Za prim8;have HD:=Za deg8;show Calls prog 81 #[.int .i64 8, .int .u32 285] W _;go_enter func81,ntmps81
  go_wp2_with (first|(go_at_call 124;refine (ciz.calls _ _ _ HD.o).mono ?_;rintro e w9 ⟨rfl,m9,rfl⟩)|(go_at_call 125;refine (boz.calls 400 _ _ _ HP.o).mono ?_;rintro e w9 ⟨rfl,hB⟩))
  go_ret;exact ⟨_,rfl,heap_alloc_new _ _,hB.size,aoz (w:=W) ⟨hB.os,hB.tape,hB.output,hB.size,hB.block⟩ _⟩
 ·have HP:=Za prim16;have HD:=Za deg16;show Calls prog 81 #[.int .i64 16, .int .u32 69643] W _;go_enter func81,ntmps81
  go_wp2_with (first|(go_at_call 124;refine (ciz.calls _ _ _ HD.o).mono ?_;rintro e w9 ⟨rfl,m9,rfl⟩)|(go_at_call 125;refine (boz.calls 1500 _ _ _ HP.o).mono ?_;rintro e w9 ⟨rfl,hB⟩))
  go_ret;exact ⟨_,rfl,heap_alloc_new _ _,hB.size,aoz (w:=W) ⟨hB.os,hB.tape,hB.output,hB.size,hB.block⟩ _⟩
def pbits (p:Int):Int:=if p=2 then 16 else 8
theorem dQz (p:Int):pbits p=8\/pbits p=16:=by unfold pbits;split<;>simp
theorem profile_told {p:Int} (h:1<=p/\p<=6): ∃s l m,bnz.f p=some (s,pbits p,fpoly (pbits p),l,m,true):=by
 obtain ⟨h1,h2⟩:=h;have:p=1\/p=2\/p=3\/p=4\/p=5\/p=6:=by omega
 rcases this with rfl|rfl|rfl|rfl|rfl|rfl<;>exact ⟨_,_,_,rfl⟩
theorem dLz.calls (p:Int) (h:1<=p/\p<=6) (W:World):
  Calls prog 45 #[.int .i64 p] W fun e w'=> ∃g:Nat,e= .returned (.pointer (some ⟨g,0,none⟩))/\Fresh w' g (pbits p)/\W.heap.size<=g/\Below W.heap.size W w':=by
 obtain ⟨s,l,m,h0⟩:=profile_told h;have H0:=Za h0;have HN:=Za (gf_New.calls (pbits p) (dQz p));generalize pbits p=wb at H0 HN|-;generalize fpoly wb=q at H0 HN;clear h h0;go_enter func45,ntmps45
 go_wp2_with (first|(go_at_call 75;refine (bnz.calls p _ _ _ _ _ _ _ H0.o).mono ?_;rintro e w9 ⟨rfl,hB⟩)|(go_at_call 81;refine (HN.o _).mono ?_;rintro e w8 ⟨g,rfl,q1,q2,q3⟩))
 go_ret;have e1:=hB.size;exact ⟨g,rfl,q1,by simp at q2;omega,(aoz hB _).trans (q3.mono (by simp;omega))⟩
def dotF (wb:Int):List Int->List Int->Int->Int
 |x::a,y::b,s=>dotF wb a b (Go.bits .xor .i64 s (gmul wb x y))
 |_,_,s=>s
theorem dotF_drop (wb:Int) (a b:List Int) (s:Int) (k:Nat) (x y:Int) (hx:a[k]?=some x) (hy:b[k]?=some y):dotF wb (a.drop k) (b.drop k) s=dotF wb (a.drop (k+1)) (b.drop (k+1)) (Go.bits .xor .i64 s (gmul wb x y)):=by
 obtain ⟨h1,rfl⟩:=Zk hx;obtain ⟨h2,rfl⟩:=Zk hy;rw [List.drop_eq_getElem_cons h1,List.drop_eq_getElem_cons h2,dotF]
theorem dotF_end (wb:Int) (a b:List Int) (s:Int):dotF wb (a.drop a.length) b s=s:=by
 rw [List.drop_length];cases b<;>rfl
abbrev NotG (g:Nat):Nat->Prop:=fun k=>k≠g
theorem F_bb {α:Type} {d:Kd α} {W W1:World} {g:Nat} {A:Option Addr} {n:Nat} {xs:List α} (h:Kd.F d W (NotG g) A n xs) (hb:BB W W1 g):Kd.F d W1 (NotG g) A n xs:=Kd.F_keep h hb.keep (fun _ hk=>hk)
theorem matrix_dot.calls (g : Nat) (S : Nat -> Prop) (wb : Int) (A B : Option Addr) (ca cb : Nat) (a b : List Int) (W : World) (hw : wb = 8 \/ wb = 16) (hF : Fd W g wb (fpoly wb) S) (hS : ∀ k, S k -> k < W.heap.size) (hla : a.length <= 1000) (hlb : a.length <= b.length)
  (ha:Kd.F (Kd.int .i64) W (NotG g) A a.length a) (hb:Kd.F (Kd.int .i64) W (NotG g) B b.length b):
  Calls prog 185 #[.pointer (some ⟨g,0,none⟩), .slice A a.length ca, .slice B b.length cb] W fun e w'=>e= .returned (.int .i64 (dotF wb a b 0))/\Fd w' g wb (fpoly wb) S/\BB W w' g:=by
 have HF:=Za hF;have HS:=Za hS;have HW:=Za hw;have HA:=Za ha;have HB:=Za hb;obtain ⟨R,hR⟩: ∃R,dotF wb a b 0=R:=⟨_,rfl⟩;rw [hR];have HR:=Za (show dotF wb (a.drop 0) (b.drop 0) 0=R from hR);clear hF hS hw ha hb hR;go_enter func185,ntmps185;go_wp2
 go_loopw [7,12] (fun s i wr=> ∃(k:Nat) (z:Int),k<=a.length/\s= .int .i64 z/\i= .int .i64 k/\Aside0 (dotF wb (a.drop k) (b.drop k) z=R)/\Aside0 (Fd wr g wb (fpoly wb) S)/\Aside0 (BB W wr g)) (fun _ i _=>a.length - (intOf i).toNat)
 case atStart=>exact ⟨0,0,Nat.zero_le _,rfl,rfl,HR,HF,⟨BB.refl _ _⟩⟩
 clear HR HF;obtain ⟨k,z,hk,rfl,rfl,HR,HF,a0⟩:=hrel;by_cases hlt:k<a.length
 ·obtain ⟨x,hx⟩: ∃x,a[k]?=some x:=⟨_,Zf hlt⟩;obtain ⟨y,hy⟩: ∃y,b[k]?=some y:=⟨_,Zf (by omega)⟩;obtain ⟨ad,rfl,d0⟩:=cKz (Kd.F_now (F_bb HA.o a0.o)) k x hx;obtain ⟨bd,rfl,e0⟩:=cKz (Kd.F_now (F_bb HB.o a0.o)) k y hy;have b0:=Za ((dotF_drop wb a b z k x y hx hy).symm.trans HR.o);have c0:k<b.length:=by omega
  clear hx hy
  go_wp2_with (first|(go_at_call 103;refine (cLz.calls g S wb x y _ HW.o HF.o (fun k hk=>Zp (HS.o k hk) a0.o.size)).mono ?_;rintro e w3 ⟨rfl,q1,q2⟩))
  go_roundw
  case rel=>exact ⟨k+1,_,by omega,rfl,by go_num,b0,⟨q1⟩,⟨a0.o.trans q2⟩⟩
  case measure=>simp [intOf];omega
 ·obtain rfl:k=a.length:=by omega
  have HE:=Za ((dotF_end wb a (b.drop a.length) z).symm.trans HR.o);go_wp2;go_ret;refine ⟨?_,HF.o,a0.o⟩;rw [<-HE.o];rfl
theorem append_int_run {W:World} {base:Nat} {v:Value} {xs:List Int} (z:Int) (HO:(Kd.int .i64).R 3 W base (fun _=>True) v xs) (hb:base<=W.heap.size) (hl:xs.length<=1000):
  ∃v1 w1,(Builtin.append_ #[57,57] 57 #[v, .slice (some ⟨W.heap.size,0,none⟩) 1 1]).run prog (W.alloc (.cells #[.int .i64 z] 3))= .ok v1 w1/\(Kd.int .i64).R 3 w1 base (fun _=>True) v1 (xs++ [z])/\W.grownBy w1 v.ownBlock/\(v1.ownBlock=v.ownBlock\/ ∃b,v1.ownBlock=some b/\W.heap.size<=b):=by
 obtain ⟨h0,inner,hown,hr⟩:=HO;obtain ⟨i0,hi,b0,c0,a0⟩:=info_parts info3;have hcell:(W.alloc (.cells #[.int .i64 z] 3)).heap[W.heap.size]?=some (.cells #[.int .i64 z] 3 (0,0)):=heap_alloc_new _ _
 obtain ⟨v1,w1,hrun,h1,h2, -,h4⟩:=run_append_own_at (P:=prog) (w:=W.alloc (.cells #[.int .i64 z] 3)) base 57 57 3 i0 (.int .i64 0) 1 8 underlying57 hi b0 c0 a0 rfl (by decide) v xs.length inner (fwz hown (aoz (Zw _ _) _)) ⟨W.heap.size,0,none⟩ 1 1 [.int .i64 z] rfl
  (fun j u hu=>by
   cases j with
   |succ j=>simp at hu
   |zero=>
    obtain rfl:Value.int .i64 z=u:=by simpa using hu
    exact (abz hcell 0).trans rfl) (by simp [Value.oneCell']) (by unfold maxLen;omega) (by omega) (by simp;omega)
 have hgW:W.grownBy w1 v.ownBlock:=(World.grownBy_alloc W _ _).trans h2
 have hat:v1.ownBlock=v.ownBlock\/ ∃b,v1.ownBlock=some b/\W.heap.size<=b:=by
  rcases h4 with h4|h4
  ·exact .inl h4
  ·exact .inr ⟨_,h4,by simp⟩
 exact ⟨v1,w1,hrun,Kd.e5z h0 hr (okp:=fun _=>False) (show (Kd.int .i64).M W base (fun _=>False) z [.int .i64 z] from rfl) (fun _ h=>h.elim) (fun _ _=>trivial) h1 hgW hat,hgW,hat⟩
theorem faz {X Y:World} {row:Option Nat} {base:Nat} {ok:Nat->Prop} {v:Value} {xs:List Int} {e:Nat} (h:(Kd.int .i64).R e X base ok v xs) (hg:X.grownBy Y row) (hr: ∀r,row=some r-> ∃o:Obj,X.heap[r]?=some o/\o.isCells=false):(Kd.int .i64).R e Y base ok v xs:=by
 refine Kd.aKz (Kd.cvz (Kd.bUz h) (fun k hk=> ?_)) (fun k hk=>hk.1);obtain ⟨-, -,hlt,q, -,cells,hc⟩:=hk;exact grownBy_keeps_cells hg hr hc rfl
theorem Fd_noncells {X Y:World} {row:Option Nat} {g:Nat} {wb p:Int} {S:Nat->Prop} (h:Fd X g wb p S) (hg:X.grownBy Y row) (hr: ∀r,row=some r-> ∃o:Obj,X.heap[r]?=some o/\o.isCells=false):Fd Y g wb p S:=by
 obtain ⟨h1,h2|⟨h8,hp,a,b,h3,ha,hb,na,nb⟩⟩:=h
 ·exact ⟨h1, .inl ((grownBy_keeps_cells hg hr h2 rfl).trans h2)⟩
 ·exact ⟨h1, .inr ⟨h8,hp,a,b,(grownBy_keeps_cells hg hr h3 rfl).trans h3,(grownBy_keeps_cells hg hr ha rfl).trans ha,(grownBy_keeps_cells hg hr hb rfl).trans hb,na,nb⟩⟩
theorem row_atF {α:Type} {d:Kd α} {e:Nat} {W:World} {ok:Nat->Prop} {ad:Addr} {rows:List (List α)} (h:Kd.F (Kd.slice e d) W ok (some ad) rows.length rows) (k:Nat) (x:List α) (hx:rows[k]?=some x):
  ∃A' c',W.cell? (ad.add k)=some (.slice A' x.length c')/\x.length<=c'/\Kd.F d W ok A' x.length x:=by
 have hlt:=(Zk hx).1;obtain ⟨ad',c,hA,hl,hK,hc, -⟩:=Kd.F_get h ([] :List α) (k:Int) (by omega) (by omega);obtain rfl:ad=ad':=Zn hA;rw [Zu,Zm,hx] at hK;obtain ⟨A',c',rfl,hle,hF⟩:=Kd.cNz hK;refine ⟨A',c',?_,hle,hF⟩;have:=hc 0 _ rfl
 simpa [Kd.slice] using this
theorem cwz {P : Program} {fn : Func} {tmps : Array Value} {R : Ending -> World -> Prop} {n : Nat} : ∀ (Ds : List Nat) (w : World), Ds.Nodup -> (∀ D, D ∈ Ds -> w.heap[D]? = some (.deferred (some []))) ->
  (∀w',(∀k,k<w.heap.size->k∉Ds->w'.heap[k]?=w.heap[k]?)->w'.heap.size=w.heap.size->w'.os=w.os->w'.tape=w.tape->w'.output=w.output->LeavesInM Fence.wide n P fn tmps R [] .returning w')->
  LeavesInM Fence.wide n P fn tmps R (Ds.map fun D=> { target:= .collected D,args:= #[] }) .returning w
 | [],w,_,_,h=>h w (fun _ _ _=>rfl) rfl rfl rfl rfl
 |D::Ds,w,hn,hd,h=>by
  have h1:=hd D (List.mem_cons_self ..);have hlt:=(Array.getElem?_eq_some_iff.1 h1).1;refine ⟨by simp, .inl ⟨D,_,rfl,run_takeDeferred h1,?_⟩⟩;have hn':=List.nodup_cons.1 hn;refine cwz Ds _ hn'.2 (fun D' hD'=>(World.putObj_heap_other (fun e=>hn'.1 (by rw [<-e];exact hD'))).trans (hd D' (List.mem_cons_of_mem _ hD'))) (fun w' hk hs h3 h4 h5=> ?_);have hsz:(w.putObj D (.deferred none)).heap.size=w.heap.size:=by simp [World.putObj]
  exact h w' (fun k b0 a0=>(hk k (by rw [hsz];exact b0) (fun e=>a0 (List.mem_cons_of_mem _ e))).trans (World.putObj_heap_other (fun e=>a0 (by simp [e])))) (hs.trans hsz) (h3.trans rfl) (h4.trans rfl) (h5.trans rfl)
theorem Fd.cells {W:World} {g:Nat} {wb p:Int} {S:Nat->Prop} (h:Fd W g wb p S): ∃cs,W.heap[g]?=some (.cells cs 172 (0,0)):=by
 obtain ⟨-,h|⟨-, -,a,b,h, -⟩⟩:=h
 ·exact ⟨_,h⟩
 ·exact ⟨_,h⟩
theorem Fd.grow {X Y:World} {g:Nat} {wb p:Int} {S:Nat->Prop} {row:Option Nat} (h:Fd X g wb p S) (hr: ∀k,row=some k->S k) (hg:X.grownBy Y row):Fd Y g wb p (fun k=>S k\/X.heap.size<=k):=
 h.more.move (fun k hk hlt=>hg.block k hlt (fun e=>hk (.inl (hr k e.symm))))
theorem F_block {W:World} {g c t:Nat} {cs:Array Value} {xs:List Int} (hg:W.heap[g]?=some (.cells cs t (0,0))) (ht:3≠t) (hc:W.heap[c]?=some (.cells (nums .i64 xs).toArray 3 (0,0))) (hl:xs.length<=1000):Kd.F (Kd.int .i64) W (NotG g) (some ⟨c,0,none⟩) xs.length xs:=by
 have hne:c≠g:=by
  rintro rfl;rw [hc] at hg;injection hg with hg
  injection hg with _ hg
  exact ht hg
 intro W' hW;have hc':=(hW c hne (aUz hc)).trans hc;refine ⟨rfl,by omega,fun _=>⟨_,rfl,fun j x hx=>⟨[.int .i64 x],rfl,rfl,fun i' u hu=> ?_⟩⟩⟩
 cases i' with
 |succ i'=>simp at hu
 |zero=>
  obtain rfl:Value.int .i64 x=u:=by simpa using hu
  have e:(⟨c,0,none⟩:Addr).add (j*(Kd.int .i64).sz+0)=⟨c,j,none⟩:=by
   show (⟨c,0,none⟩:Addr).add (j*1+0)=_;unfold Addr.add;split<;>simp_all
  rw [e,abz hc' _];simp [nums,hx]
theorem Fd_keepC {X Y:World} {g:Nat} {wb p:Int} {S:Nat->Prop} (h:Fd X g wb p S) (hm: ∀(k:Nat) (o:Obj),X.heap[k]?=some o->o.isCells=true->Y.heap[k]?=X.heap[k]?):Fd Y g wb p S:=by
 obtain ⟨h1,h2|⟨h8,hp,a,b,h3,ha,hb,na,nb⟩⟩:=h
 ·exact ⟨h1, .inl ((hm _ _ h2 rfl).trans h2)⟩
 ·exact ⟨h1, .inr ⟨h8,hp,a,b,(hm _ _ h3 rfl).trans h3,(hm _ _ ha rfl).trans ha,(hm _ _ hb rfl).trans hb,na,nb⟩⟩
theorem S_keepC {X Y:World} {base:Nat} {ok:Nat->Prop} {v:Value} {xs:List (List Int)} {e t:Nat} (h:Kd.S (dM e .i64) t X base ok v xs) (hm: ∀(k:Nat) (o:Obj),X.heap[k]?=some o->o.isCells=true->Y.heap[k]?=X.heap[k]?):Kd.S (dM e .i64) t Y base ok v xs:=by
 refine Kd.cPz (Kd.S_move (Kd.bDz h) (fun k hk=> ?_)) (fun k hk=>hk.1);obtain ⟨-, -,hlt,q, -,cells,hc⟩:=hk;exact hm _ _ hc rfl
def bvz.f (a0:Int):Option (Bool):=if a0>=1 then (some (decide (a0<=20))) else (some false)
theorem bvz.calls (a0:Int) (r:Bool) (w:World) (h:bvz.f a0=some r):
  Calls prog 116 #[.int .i64 a0] w fun e w'=>e= .returned (.bool r)/\Drawn0 w w':=by
 have H:=h;clear h;unfold bvz.f at H;by_cases c2:a0>=1
 ·rw [Ya c2] at H;have b0:decide (1<=a0)=true:=Zd c2;clear c2;obtain rfl:=Zn H;go_enter func116,ntmps116;go_wp2;go_ret;exact ⟨sd_,dn_⟩
 ·rw [Yb c2] at H;have b0:decide (1<=a0)=false:=Ze c2;clear c2;obtain rfl:=Zn H;go_enter func116,ntmps116;go_wp2;go_ret;exact ⟨sd_,dn_⟩
def cxz.l0:Nat->Int->List Int->Int->Int->Option (List Int)
 |0,_,_,_,_=>none
 |k+1,x0,x5,x10,x11=>if x11<x10 then (if 0<=x11 then (if x11<(x5.length:Int) then (cxz.l0 k x0 (x5.set (x11:Int).toNat (wrap64 (x0+x11))) x10 (wrap64 (x11+1))) else (none)) else (none)) else (some x5)
def cxz.f (k:Nat) (a0:Int) (a1:Int):Option (List Int):=if 0<=a1 then (if (a1:Int).toNat<=35184372088832 then ((some (List.replicate (a1:Int).toNat 0:List Int)).bind fun y654=>(cxz.l0 k a0 y654 (y654.length:Int) 0)) else (none)) else (none)
theorem cxz.calls (k:Nat) (a0 a1:Int) (r:List Int) (w:World) (h:cxz.f k a0 a1=some r):
  Calls prog 118 #[.int .i64 a0, .int .i64 a1] w fun e w'=> ∃K0:Value,e= .returned (K0)/\Kd.R (Kd.int .i64) 3 w' w.heap.size (fun _=>True) K0 r/\Below w.heap.size w w':=by
 have HB:=Za (Zw w.heap.size w);have H:=h;clear h;unfold cxz.f at H;obtain ⟨c3,H⟩:=ig_ H;have B0:=Zz c3;have F0:=Zd c3;clear c3;obtain ⟨c4,H⟩:=ig_ H;have H0:=Zz c4;have J0:=Zd c4;clear c4;obtain ⟨h0,f0⟩: ∃y_:List Int,y_=(List.replicate (a1:Int).toNat 0):=⟨_,rfl⟩
 first|rw [Zl, <-f0] at H|rw [<-f0] at H
 (try dsimp only at H)
 have i0:=Za f0;clear f0;have H':=Za H;clear H;go_enter func118,ntmps118
 go_wp2_with (first|((with_reducible refine aTz (N:=8) rfl ?_);refine Kd.R_make (Kd.int .i64) _ 3 rfl (N:=8) rfl 57 _ _ rfl a1 rfl rfl underlying57 (.int .i64 0) 8 info3 rfl (by decide) (by omega) 0 (ok:=fun _=>True) (okp:=fun _=>True) rfl (fun _ hk=>hk) trivial (Zc as_) (Zt (Nat.mul_le_mul_right _ (Zc as_:a1.toNat<=35184372088832)) (by omega)) (Zw _ _) (Zv _) ?_;intro P0 w5 u0 hb W0 q0;clear W0 q0;(first|rw [<-i0.o] at u0|(simp only [Int.reduceToNat] at u0;rw [<-i0.o] at u0));have n_:=Zb (Za (Kd.bCz u0 (adz bl_))) (hs_ HB hb);clear HB;obtain ⟨j0,HB⟩:=n_;clear hb u0;obtain ⟨T0,L0,R0⟩:=Kd.aQz j0.o;subst R0))
 go_loopg [11] k (fun kq V0 w'=> ∃(g0:List Int) (b0:Int),V0= .int .i64 b0/\Aside0 (cxz.l0 kq a0 g0 (h0.length:Int) b0=some r)/\Aside0 (kq<=k)/\Aside0 (Kd.R (Kd.int .i64) 3 w' w.heap.size (fun _=>True) (.slice T0 h0.length L0) g0)/\Aside0 (Below w.heap.size w w'))
 case atStart=>exact ⟨(h0),(0),sd_,H',⟨Zv _⟩,⟨xd_ j0.o⟩,⟨bl_⟩⟩
 clear H';clear B0 F0 H0 J0;obtain ⟨g0,b0,rfl,HA,N0,c0,HB⟩:=hrel;have d0:=(Kd.aHz c0.o).1;rw [d0] at c0
 (try simp only [d0])
 rcases gk with _|k1
 ·exact Yf HA.o (by simp [cxz.l0])
 have H:=HA.o;clear HA;simp only [cxz.l0] at H;by_cases c8:b0<(h0.length:Int)
 rotate_left
 ·rw [Yb c8] at H;have t0:=Ze c8
  (first|(rw [d0] at t0)|skip)
  clear c8;obtain rfl:=Zn H;go_wp2;go_ret;exact ⟨_,er_,xd_ c0.o,bl_⟩
 rw [Ya c8] at H;have t0:=Zd c8;clear c8;obtain ⟨Y0,H⟩:=ih_ H;obtain ⟨O0,H⟩:=ih_ H;obtain ⟨w0,e0⟩: ∃y_:List Int,y_=(g0.set (b0:Int).toNat (wrap64 (a0+b0))):=⟨_,rfl⟩
 first|rw [Zl, <-e0] at H|rw [<-e0] at H
 (try dsimp only at H)
 have v0:=Za e0;clear e0;have H':=Za H;clear H;have E0:0<=(b0:Int):=Zc as_;have D0:(b0:Int)<((g0.length:Int):Int):=Zc as_;obtain ⟨k0,X0,r0,o0,C0,S0,p0⟩:=Kd.egz c0.o (by omega)
 (first|cases r0|(injection r0 with y0 Q0 Z0;(first|subst y0|(injection y0 with y0;subst y0));subst Z0;clear Q0))
 have A0:=Za o0;have U0:=Za p0;clear o0 C0 p0;obtain ⟨I0,G0⟩:=Kd.R_celln 0 c0.o (b0:Int) E0 D0;replace E0:=Zz E0;replace D0:=Zz D0;have n0:=Kd.R_putg c0.o (b0:Int) (wrap64 (a0+b0))
 go_wp2_with (first|((with_reducible refine dbz (t:=3) (p:=19) rfl ?_);refine dDz (t:=3) (p:=19) (v:= ?vo_w13) (w1:=(wr.setCell ⟨k0,(b0:Int).toNat,none⟩ (.int .i64 (wrap64 (a0+b0))))) ?hg ?ho ?hn ?hr ?_;(case ho=>rfl);(case hg=>rfl);(case hn=>rfl);(case hr=>first|(go_simp;done)|(go_simp;rfl));intro z0 hw;have hg:wr.grownBy z0 (some k0):=(by rw [hw];exact n0.2);have M0:Kd.R (Kd.int .i64) 3 z0 w.heap.size (fun _=>True) (.slice (some ⟨k0,0,none⟩) g0.length L0) w0:=(by rw [hw,v0.o];exact n0.1);clear n0;have n_:=Zb (Za (M0)) (Za ((by rw [hw];exact dqz (HB.o) A0.o:Below w.heap.size w z0)));clear c0 HB;obtain ⟨c0,HB⟩:=n_;clear hg hw M0))
 (try simp only [<-d0])
 go_roundg k1
 case measure=>have:=N0.o;omega
 case rel=>exact ⟨(w0),(wrap64 (b0+1)),sd_,H',⟨by have:=N0.o;omega⟩,⟨by (try simp only [d0]);(with_reducible repeat (first|apply Kd.c4z|apply Kd.dxz|apply Kd.cBz));exact c0.o⟩,⟨bl_⟩⟩
theorem ofInt64 (a:Nat) (ha:a<9223372036854775808):(BitVec.ofInt 64 (a:Int)).toNat=a:=by
 rw [BitVec.ofInt_natCast,BitVec.toNat_ofNat];exact Nat.mod_eq_of_lt (by omega)
theorem i64_and1 (a:Nat) (ha:a<9223372036854775808):Go.bits .and .i64 (a:Int) 1=((a % 2:Nat):Int):=by
 show IntKind.i64.wrap ((BitVec.ofInt 64 (a:Int)&&&BitVec.ofInt 64 (1:Int)).toNat:Int)=_;rw [BitVec.toNat_and,ofInt64 a ha,show (1:Int)=((1:Nat):Int) from rfl,ofInt64 1 (by omega),Nat.and_one_is_mod,IntKind.wrap_i64];omega
theorem gmN_assoc {wb:Int} (hw:wb=8\/wb=16) {a b:Nat} (ha:(a:Int)<fsize wb) (hb:(b:Int)<fsize wb) (c:Nat):gmN wb (gmN wb a b) c=gmN wb a (gmN wb b c):=by
 rcases hw with rfl|rfl
 ·exact gf8.toGf.assoc (by simp [fsize] at ha;omega) (by simp [fsize] at hb;omega) c
 ·exact gf16.toGf.assoc (by simp [fsize] at ha;omega) (by simp [fsize] at hb;omega) c
theorem gpwN_zero (wb:Int) (a:Nat):gpwN wb a 0=1:=by unfold gpwN;split<;>rfl
theorem gpwN_even {wb:Int} (hw:wb=8\/wb=16) {a:Nat} (ha:(a:Int)<fsize wb) (n:Nat):gpwN wb (gmN wb a a) n=gpwN wb a (2*n):=by
 rcases hw with rfl|rfl
 ·exact gf8.toGf.gp_sq (by simp [fsize] at ha;omega) n
 ·exact gf16.toGf.gp_sq (by simp [fsize] at ha;omega) n
theorem gpwN_lt {wb:Int} (hw:wb=8\/wb=16) {a:Nat} (ha:(a:Int)<fsize wb) (n:Nat):(gpwN wb a n:Int)<fsize wb:=by
 rcases hw with rfl|rfl
 ·have:=gf8.toGf.gp_lt (a:=a) (by simp [fsize] at ha;omega) n;simp only [gpwN,fsize,if_true];omega
 ·have:=gf16.toGf.gp_lt (a:=a) (by simp [fsize] at ha;omega) n;simp only [gpwN,fsize,show¬((16:Int)=8) by decide,if_false];omega
theorem gpwN_odd {wb:Int} (hw:wb=8\/wb=16) {a:Nat} (ha:(a:Int)<fsize wb) (n:Nat):gmN wb a (gpwN wb (gmN wb a a) n)=gpwN wb a (2*n+1):=by
 rw [gpwN_even hw ha];rcases hw with rfl|rfl
 ·exact gf8.toGf.comm (by simp [fsize] at ha;omega) (gf8.toGf.gp_lt (by simp [fsize] at ha;omega) _)
 ·exact gf16.toGf.comm (by simp [fsize] at ha;omega) (gf16.toGf.gp_lt (by simp [fsize] at ha;omega) _)
theorem gmN_one {wb:Int} (hw:wb=8\/wb=16) {a:Nat} (ha:(a:Int)<fsize wb):gmN wb 1 a=a:=by
 rcases hw with rfl|rfl
 ·exact gf8.toGf.dnz (by simp [fsize] at ha;omega)
 ·exact gf16.toGf.dnz (by simp [fsize] at ha;omega)
theorem gmul_in {wb a b:Int} (ha:0<=a) (ha':a<fsize wb) (hb:0<=b) (hb':b<fsize wb):gmul wb a b=(gmN wb a.toNat b.toNat:Int):=by
 unfold gmul;rw [Ya (by simp [inF];omega)]
theorem gpow_out {wb a n:Int} (h:(inF wb a&&decide (0<=n))=false):gpow wb a n=0:=by simp [gpow,h]
def PowRel (wb:Int) (R:Nat) (o x:Int) (m:Nat):Prop:=0<=o/\o<fsize wb/\0<=x/\x<fsize wb/\gmN wb o.toNat (gpwN wb x.toNat m)=R
theorem PowRel.even {wb:Int} (hw:wb=8\/wb=16) {R:Nat} {o x:Int} {m:Nat} (h:PowRel wb R o x m) (he:m % 2=0):PowRel wb R o (gmul wb x x) (m / 2):=by
 obtain ⟨h1,h2,h3,h4,h5⟩:=h;have hr:=bIz hw x x;refine ⟨h1,h2,hr.1,hr.2,?_⟩;rw [gmul_in h3 h4 h3 h4,Zu,gpwN_even hw (by omega),show 2*(m / 2)=m by omega];exact h5
theorem PowRel.odd {wb:Int} (hw:wb=8\/wb=16) {R:Nat} {o x:Int} {m:Nat} (h:PowRel wb R o x m) (he:m % 2=1):PowRel wb R (gmul wb o x) (gmul wb x x) (m / 2):=by
 obtain ⟨h1,h2,h3,h4,h5⟩:=h;have hr:=bIz hw x x;have hr':=bIz hw o x;refine ⟨hr'.1,hr'.2,hr.1,hr.2,?_⟩;rw [gmul_in h1 h2 h3 h4,gmul_in h3 h4 h3 h4,Zu,Zu,gmN_assoc hw (by omega) (by omega),gpwN_odd hw (by omega),show 2*(m / 2)+1=m by omega];exact h5
theorem PowRel.done {wb:Int} (hw:wb=8\/wb=16) {R:Nat} {o x:Int} (h:PowRel wb R o x 0):o=(R:Int):=by
 obtain ⟨h1,h2,h3,h4,h5⟩:=h;rw [gpwN_zero] at h5
 have:gmN wb o.toNat 1=o.toNat:=by
  rcases hw with rfl|rfl
  ·exact gf8.toGf.eIz (by simp [fsize] at h2;omega)
  ·exact gf16.toGf.eIz (by simp [fsize] at h2;omega)
 omega
theorem PowRel.start {wb:Int} (hw:wb=8\/wb=16) {a:Int} {n:Nat} (ha:0<=a) (ha':a<fsize wb):PowRel wb (gpwN wb a.toNat n) 1 a n:=
 ⟨by omega,by rcases hw with rfl|rfl<;>decide,ha,ha',gmN_one hw (gpwN_lt hw (by omega) _)⟩
theorem gf_Pow.calls (g:Nat) (S:Nat->Prop) (wb a:Int) (n:Nat) (W:World) (hn:n<=1000000) (hw:wb=8\/wb=16) (hF:Fd W g wb (fpoly wb) S) (hS: ∀k,S k->k<W.heap.size):
  Calls prog 122 #[.pointer (some ⟨g,0,none⟩), .int .i64 a, .int .i64 (n:Int)] W fun e w'=>e= .returned (.int .i64 (gpow wb a n))/\Fd w' g wb (fpoly wb) S/\BB W w' g:=by
 have HC:=Za (gf_in.calls g wb (fpoly wb) S (some ⟨W.heap.size,0,none⟩) 1 [a] _ (hF.alloc (.cells #[.int .i64 a] 3)) hw (C_nums (t:=3) (heap_alloc_new _ _) (by simp)) (by simp));rw [allIn_one] at HC;have HF:=Za (hF.alloc (.cells #[.int .i64 a] 3));have HB:=Za ((BB.refl W g).alloc (.cells #[.int .i64 a] 3));have HS:=Za hS;have HW:=Za hw;clear hF hS hw;have n0:(0:Int)<=(n:Int):=by omega
 have n1:decide ((n:Int)<0)=false:=Ze (by omega);by_cases hin:inF wb a=true
 ·have hg:gpow wb a n=((gpwN wb a.toNat n:Nat):Int):=by simp [gpow,hin]
  have hr:0<=a/\a<fsize wb:=by simpa [inF] using hin
  rw [hin] at HC;rw [hg];have HR:=Za (PowRel.start (n:=n) HW.o hr.1 hr.2);generalize gpwN wb a.toNat n=R at HR;clear hin hg hr;go_enter func122,ntmps122
  go_wp2_with (first|(go_at_call 151;refine HC.o.mono ?_;rintro e w9 ⟨rfl,m9,rfl⟩))
  go_loopw [7,1,2] (fun o x m wr=> ∃(o1 x1:Int) (m1:Nat),o= .int .i64 o1/\x= .int .i64 x1/\m= .int .i64 (m1:Int)/\m1<=1000000/\Aside0 (PowRel wb R o1 x1 m1)/\Aside0 (Fd wr g wb (fpoly wb) S)/\Aside0 (BB W wr g)) (fun _ _ m _=>(intOf m).toNat)
  case atStart=>exact ⟨1,a,n,rfl,rfl,rfl,hn,HR,⟨HF.o.drewN _⟩,⟨HB.o.drewN _⟩⟩
  clear HR HF HB HC n0 n1 hn;obtain ⟨o1,x1,m1,rfl,rfl,rfl,hm,HR,HF,HB⟩:=hrel;by_cases hpos:0<m1
  ·have p0:(0:Int)<(m1:Int):=by omega
   have HM:=Za<|fun (y:Int) (wq:World) (hq:Fd wq g wb (fpoly wb) S) (hb:BB W wq g)=>cLz.calls g S wb y x1 wq HW.o hq (fun k hk=>Zp (HS.o k hk) hb.size)
   by_cases hodd:m1 % 2=1
   ·have a0:=Za (HR.o.odd HW.o hodd);have hand:(Go.bits .and .i64 (m1:Int) 1==1)=true:=by rw [i64_and1 m1 (by omega),hodd];rfl
    clear hodd
    go_wp2_with (first|(go_at_call 103;refine (HM.o _ _ (by first|exact HF.o|exact q1) (by first|exact HB.o|exact HB.o.trans q2)).mono ?_;rintro e w3 ⟨rfl,q1,q2⟩))
    exact ⟨⟨_,_,m1 / 2,rfl,rfl,by rw [show ((m1 / 2:Nat):Int)=(m1:Int) / 2 by omega],by omega,a0,⟨q1⟩,⟨(HB.o.trans ‹BB wr _ g›).trans q2⟩⟩,by simp [intOf];omega⟩
   ·have a0:=Za (HR.o.even HW.o (by omega));have hand:(Go.bits .and .i64 (m1:Int) 1==1)=false:=by rw [i64_and1 m1 (by omega),show m1 % 2=0 by omega];rfl
    clear hodd
    go_wp2_with (first|(go_at_call 103;refine (HM.o _ _ (by first|exact HF.o|exact HF.o.drewN _) (by first|exact HB.o|exact HB.o.drewN _)).mono ?_;rintro e w3 ⟨rfl,q1,q2⟩))
    exact ⟨⟨_,_,m1 / 2,rfl,rfl,by rw [show ((m1 / 2:Nat):Int)=(m1:Int) / 2 by omega],by omega,a0,⟨q1⟩,⟨HB.o.trans q2⟩⟩,by simp [intOf];omega⟩
  ·obtain rfl:m1=0:=by omega
   obtain rfl:=HR.o.done HW.o;go_wp2;go_ret;exact ⟨rfl,HF.o,HB.o⟩
 ·have hin':inF wb a=false:=by simpa using hin
  rw [hin'] at HC;rw [gpow_out (by simp [hin'])];clear hin hin';go_enter func122,ntmps122
  go_wp2_with (first|(go_at_call 151;refine HC.o.mono ?_;rintro e w9 ⟨rfl,m9,rfl⟩))
  go_ret;exact ⟨rfl,HF.o.drewN _,HB.o.drewN _⟩
theorem gf_Inv.calls (g:Nat) (S:Nat->Prop) (wb a:Int) (W:World) (hw:wb=8\/wb=16) (hF:Fd W g wb (fpoly wb) S) (hS: ∀k,S k->k<W.heap.size):
  Calls prog 114 #[.pointer (some ⟨g,0,none⟩), .int .i64 a] W fun e w'=>e= .returned (.tuple #[.int .i64 (ginv wb a), .bool (inF wb a&&a !=0)])/\Fd w' g wb (fpoly wb) S/\BB W w' g:=by
 have HC:=Za (gf_in.calls g wb (fpoly wb) S (some ⟨W.heap.size,0,none⟩) 1 [a] _ (hF.alloc (.cells #[.int .i64 a] 3)) hw (C_nums (t:=3) (heap_alloc_new _ _) (by simp)) (by simp));rw [allIn_one] at HC;have HF:=Za (hF.alloc (.cells #[.int .i64 a] 3));have HB:=Za ((BB.refl W g).alloc (.cells #[.int .i64 a] 3));have HS:=Za (show∀k,S k->k<(W.alloc (.cells #[.int .i64 a] 3)).heap.size from fun k hk=>by have:=hS k hk;simp;omega);have HW:=Za hw
 have a0: ∃n:Nat,fsize wb=((n:Nat):Int)+2/\n<=1000000:=by rcases hw with rfl|rfl;exact ⟨254,rfl,by omega⟩;exact ⟨65534,rfl,by omega⟩
 obtain ⟨n,hz,hn⟩:=a0;clear hF hS hw;by_cases hin:inF wb a=true
 ·by_cases h0:a=0
  ·subst h0;rw [hin] at HC;have e1:ginv wb 0=0:=by simp [ginv]
   have e2:(inF wb 0&&(0:Int) !=0)=false:=by simp
   rw [e1,e2];clear hin hz e1 e2;go_enter func114,ntmps114
   go_wp2_with (first|(go_at_call 151;refine HC.o.mono ?_;rintro e w9 ⟨rfl,m9,rfl⟩))
   go_ret2;exact ⟨rfl,HF.o.drewN _,HB.o.drewN _⟩
  ·rw [hin] at HC
   have e1:ginv wb a=gpow wb a n:=by
    have:(a !=0)=true:=by simpa using h0
    simp only [ginv,hin,this,Bool.and_self,if_true];rw [hz,Int.add_sub_cancel]
   have e2:(inF wb a&&a !=0)=true:=by simp [hin,h0]
   rw [e1,e2];have z1:(a==0)=false:=beq_eq_false_iff_ne.2 h0;have hs:IntKind.i64.wrap (fsize wb - 2)=(n:Int):=by rw [hz,IntKind.wrap_i64];omega
   have hs':wrap64 (fsize wb - 2)=(n:Int):=by rw [hz];unfold wrap64;omega
   clear hin hz e1 e2 h0;go_enter func114,ntmps114
   go_wp2_with (first|(go_at_call 151;refine HC.o.mono ?_;rintro e w9 ⟨rfl,m9,rfl⟩)|(go_at_call 150;refine (euz.calls g wb (fpoly wb) S _ (HF.o.drewN _) HW.o).mono ?_;rintro e w9 ⟨rfl,m8,rfl⟩)|(go_at_call 122;refine (gf_Pow.calls g S wb a n _ hn HW.o (HF.o.drewN _) HS.o).mono ?_;rintro e w9 ⟨rfl,q1,q2⟩))
   go_ret2;exact ⟨rfl,q1,(HB.o.drewN _).trans q2⟩
 ·have hin':inF wb a=false:=by simpa using hin
  rw [hin'] at HC;have e1:ginv wb a=0:=by simp [ginv,hin']
  rw [e1];have e2:(false&&a !=0)=false:=rfl;rw [hin',e2];clear hin hin' hz e1 e2;go_enter func114,ntmps114
  go_wp2_with (first|(go_at_call 151;refine HC.o.mono ?_;rintro e w9 ⟨rfl,m9,rfl⟩))
  go_ret2;exact ⟨rfl,HF.o.drewN _,HB.o.drewN _⟩
end Go.Proofs.Xc
end
section
namespace Go.Proofs.Xc
open Go.RowKit Go.Proofs.Pw Go.Proofs.Pl Go.Proofs.Pm Tryz
attribute [local go_sem] a7z a8z bgz bhz aVz aWz a9z baz
open Go.Maps Go.WideMaps
def MapSet (w:World) (B:Nat) (l:List Int):Prop:=
 ∃D:DataW Unit,w.ownsMap prog 3 (plainElem prog 4) B l.length D/\Maps.IsMap D/\
  ∀x:Int,D.atKey (.int .i64 x) (.lit (.bool false))= .lit (.bool (decide (x∈l)))
theorem lawI:Keyed prog 3:=int_keyed underlying3
theorem zeroB (w:World):(zeroValue 4).run prog w= .ok (.bool false) w:=by kernel_rfl
theorem MapSet.made (w:World):MapSet (w.alloc (.map #[] 0)) w.heap.size [] :=
 ⟨.map [],World.ownsMap_made w prog 3 _,Maps.isMap_empty,fun s=>rfl⟩
theorem MapSet.put {w : World} {B : Nat} {l : List Int} {D : DataW Unit} {x : Int} (hm : Maps.IsMap D) (hd : ∀ s : Int, D.atKey (.int .i64 s) (.lit (.bool false)) = .lit (.bool (decide (s ∈ l))))
  (h:w.ownsMap prog 3 (plainElem prog 4) B (l.length+1) (D.put (.int .i64 x) (.lit (.bool true)))):MapSet w B (l++ [x]):=by
 refine ⟨_,by simpa using h,hm.put _ _,fun s=> ?_⟩;by_cases hx:x=s
 ·subst hx;rw [Maps.atKey_put_same hm (by trivial)];simp
 ·rw [Maps.atKey_put_other (fun h=>hx (by injection h with _ h;exact h.symm)),hd s];simp [Ne.symm hx]
theorem MapSet.look {w:World} {B:Nat} {l:List Int} (h:MapSet w B l) {x:Int} (hw:(Lit.int .i64 x).wf=true) (hx:x∉l):(Instr.lookup 195 (.map (some B)) (.int .i64 x) false).run prog w= .ok (.bool false) w:=by
 obtain ⟨D,ho,hm,hd⟩:=h;obtain ⟨v,ps,hrun,hv⟩:=ho.lookup lawI underlying195 (zeroB w) (plainElem_bool underlying4 false) (keyOf_int_mk underlying3 hw);rw [hd x,Ze hx] at hv;rw [hrun];unfold plainElem at hv;rw [show prog.underlying 4=some .bool from underlying4] at hv;cases v<;>simp at hv
 rw [hv.1]
theorem MapSet.grow {w w1:World} {B:Nat} {l:List Int} {row:Option Nat} (h:MapSet w B l) (hg:w.grownBy w1 row) (hne:some B≠row):MapSet w1 B l:=by
 obtain ⟨D,ho,r⟩:=h;exact ⟨D,ho.kept hg hne,r⟩
theorem grown_of_b {w w1:World} (h:Below w.heap.size w w1):w.grownBy w1 none:=⟨h.os,h.tape,h.output,h.size,fun k hk _=>h.block k hk⟩
theorem MapSet.below {w w1:World} {B:Nat} {l:List Int} (h:MapSet w B l) (hb:Below w.heap.size w w1):MapSet w1 B l:=h.grow (grown_of_b hb) (by simp)
theorem MapSet.noncells {w:World} {B:Nat} {l:List Int} (h:MapSet w B l): ∃o:Obj,w.heap[B]?=some o/\o.isCells=false:=by
 obtain ⟨D,⟨es,clock,hb, -⟩, -⟩:=h;exact ⟨_,hb,rfl⟩
end Go.Proofs.Xc
end
section
namespace Go.Proofs.Xc
open Go.RowKit Go.Proofs.Pw Go.Proofs.Pl Go.Proofs.Pm Tryz
attribute [local go_sem] a7z a8z bgz bhz aVz aWz a9z baz
structure Mx (W:World) (o:Nat) (bs:List (Nat×Nat)) (rows:List (List Int)):Prop where
 len:bs.length=rows.length
 outer: ∃co:Array Value,W.heap[o]?=some (.cells co 57 (0,0))/\ ∀(i:Nat) (b c:Nat) (row:List Int),bs[i]?=some (b,c)->rows[i]?=some row->co[i]?=some (.slice (some ⟨b,0,none⟩) row.length c)
 inner: ∀(i:Nat) (b c:Nat) (row:List Int),bs[i]?=some (b,c)->rows[i]?=some row->row.length<=c/\ ∃cs:Array Value,W.heap[b]?=some (.cells cs 3 (0,0))/\ ∀(j:Nat) (x:Int),row[j]?=some x->cs[j]?=some (.int .i64 x)
 nodup:(bs.map Prod.fst).Nodup
structure BS (w w':World) (g:Nat) (S:Nat->Prop):Prop where
 os:w'.os=w.os
 tape:w'.tape=w.tape
 output:w'.output=w.output
 size:w.heap.size<=w'.heap.size
 block: ∀i,i<w.heap.size->i≠g-> ¬S i->w'.heap[i]?=w.heap[i]?
namespace BS
variable {a b c : World} {g : Nat} {S : Nat -> Prop}
theorem refl (w:World) (g:Nat) (S:Nat->Prop):BS w w g S:=⟨rfl,rfl,rfl,Zv _,fun _ _ _ _=>rfl⟩
theorem trans (h:BS a b g S) (k:BS b c g S):BS a c g S:=
 ⟨k.os.trans h.os,k.tape.trans h.tape,k.output.trans h.output,Zt h.size k.size,fun i hi hg hs=>(k.block i (Zp hi h.size) hg hs).trans (h.block i hi hg hs)⟩
theorem of_bb (h:BB a b g):BS a b g S:=⟨h.os,h.tape,h.output,h.size,fun i hi hg _=>h.block i hi hg⟩
theorem drewN (h:BS a b g S) (n:Nat):BS a (b.drewN n) g S:=⟨h.os,h.tape,h.output,h.size,h.block⟩
theorem drew (h:BS a b g S):BS a b.drew g S:=⟨h.os,h.tape,h.output,h.size,h.block⟩
theorem alloc (h:BS a b g S) (o:Obj):BS a (b.alloc o) g S:=h.trans (of_bb (BB.of_below (aoz (Zw _ _) o) g))
theorem set (h:BS a b g S) {p:Addr} (hp:S p.block\/a.heap.size<=p.block) (u:Value):BS a (b.setCell p u) g S:=
 ⟨h.os,h.tape,h.output,by simpa using h.size,fun i hi hg hs=>(Below.heap_setCell b p u i (fun e=>by rcases hp with hp|hp;exact hs (e▸hp);omega)).trans (h.block i hi hg hs)⟩
theorem blk (h:BS a b g S) {k:Nat} {o:Obj} (hk:a.heap[k]?=some o) (hg:k≠g) (hs: ¬S k):b.heap[k]?=some o:=(h.block k (aUz hk) hg hs).trans hk
end BS
theorem cAz {a b:World} {g:Nat} (h:BB a b g) {p:Addr} {v:Value} (hp:a.cell? p=some v) (hg:p.block≠g):b.cell? p=some v:=
 (World.cell?_of_block (h.block p.block (Zj _ _ hp) hg)).trans hp
theorem froz_bb {a b:World} {g:Nat} (h:BB a b g) {p:Addr} (hlt:p.block<a.heap.size) (hp:a.frozen? p=false) (hg:p.block≠g):b.frozen? p=false:=by
 have:=h.block p.block hlt hg
 unfold World.frozen? at *
 rw [this];exact hp
namespace Mx
variable {W W1 : World} {o : Nat} {bs : List (Nat × Nat)} {rows : List (List Int)}
theorem cCz (h:Mx W o bs rows) {i b c:Nat} {row:List Int} (hb:bs[i]?=some (b,c)) (hr:rows[i]?=some row):W.cell? ⟨o,i,none⟩=some (.slice (some ⟨b,0,none⟩) row.length c):=by
 obtain ⟨co,h1,h2⟩:=h.outer;rw [abz h1 i];exact h2 i b c row hb hr
theorem froz_o (h:Mx W o bs rows) (i:Nat):W.frozen? ⟨o,i,none⟩=false:=by
 obtain ⟨co,h1,h2⟩:=h.outer;exact bbz h1 i
theorem lt_o (h:Mx W o bs rows):o<W.heap.size:=by
 obtain ⟨co,h1,h2⟩:=h.outer;exact aUz h1
theorem cUz (h:Mx W o bs rows) {i b c j:Nat} {row:List Int} {x:Int} (hb:bs[i]?=some (b,c)) (hr:rows[i]?=some row) (hx:row[j]?=some x):W.cell? ⟨b,j,none⟩=some (.int .i64 x):=by
 obtain ⟨-,cs,h1,h2⟩:=h.inner i b c row hb hr;rw [abz h1 j];exact h2 j x hx
theorem froz_i (h:Mx W o bs rows) {i b c:Nat} (hb:bs[i]?=some (b,c)) (j:Nat):W.frozen? ⟨b,j,none⟩=false:=by
 obtain ⟨row,hr⟩: ∃row,rows[i]?=some row:=⟨_,Zf (by have:=(Zk hb).1;have:=h.len;omega)⟩;obtain ⟨-,cs,h1,h2⟩:=h.inner i b c row hb hr;exact bbz h1 j
theorem lt_i (h:Mx W o bs rows) {i b c:Nat} (hb:bs[i]?=some (b,c)):b<W.heap.size:=by
 obtain ⟨row,hr⟩: ∃row,rows[i]?=some row:=⟨_,Zf (by have:=(Zk hb).1;have:=h.len;omega)⟩;obtain ⟨-,cs,h1,h2⟩:=h.inner i b c row hb hr;exact aUz h1
theorem ne_o (h:Mx W o bs rows) {i b c:Nat} (hb:bs[i]?=some (b,c)):b≠o:=by
 obtain ⟨row,hr⟩: ∃row,rows[i]?=some row:=⟨_,Zf (by have:=(Zk hb).1;have:=h.len;omega)⟩;obtain ⟨-,cs,h1,h2⟩:=h.inner i b c row hb hr;obtain ⟨co,h3,h4⟩:=h.outer;rintro rfl;rw [h1] at h3;injection h3 with h3
 injection h3 with _ h3
 exact Yf h3 (by decide)
theorem ne_ij (h:Mx W o bs rows) {i j b c b' c':Nat} (hb:bs[i]?=some (b,c)) (hb':bs[j]?=some (b',c')) (hij:i≠j):b≠b':=by
 have h1:(bs.map Prod.fst)[i]?=some b:=by rw [List.getElem?_map,hb];rfl
 have h2:(bs.map Prod.fst)[j]?=some b':=by rw [List.getElem?_map,hb'];rfl
 rintro rfl;obtain ⟨hi,e1⟩:=Zk h1;obtain ⟨hj,e2⟩:=Zk h2;have hp:=List.pairwise_iff_getElem.1 h.nodup;rcases Nat.lt_or_gt_of_ne hij with hlt|hlt
 ·exact hp i j hi hj hlt (e1.trans e2.symm)
 ·exact hp j i hj hi hlt (e2.trans e1.symm)
theorem move (h:Mx W o bs rows) (ho:W1.heap[o]?=W.heap[o]?) (hb: ∀(i b c:Nat),bs[i]?=some (b,c)->W1.heap[b]?=W.heap[b]?):Mx W1 o bs rows:=by
 obtain ⟨h1,⟨co,h2,h3⟩,h4,h5⟩:=h;refine ⟨h1,⟨co,ho.trans h2,h3⟩,fun i b c row hi hr=> ?_,h5⟩;obtain ⟨hc,cs,h6,h7⟩:=h4 i b c row hi hr;exact ⟨hc,cs,(hb i b c hi).trans h6,h7⟩
theorem below (h:Mx W o bs rows) (hb:Below W.heap.size W W1):Mx W1 o bs rows:=h.move (hb.block _ h.lt_o) (fun _ _ _ hi=>hb.block _ (h.lt_i hi))
theorem alloc (h:Mx W o bs rows) (x:Obj):Mx (W.alloc x) o bs rows:=h.below (aoz (Zw _ _) x)
theorem drewN (h:Mx W o bs rows) (n:Nat):Mx (W.drewN n) o bs rows:=h.move rfl (fun _ _ _ _=>rfl)
theorem drew (h:Mx W o bs rows):Mx W.drew o bs rows:=h.move rfl (fun _ _ _ _=>rfl)
theorem ne_g (h:Mx W o bs rows) {g:Nat} {cs:Array Value} (hg:W.heap[g]?=some (.cells cs 172 (0,0))):o≠g/\ ∀(i b c:Nat),bs[i]?=some (b,c)->b≠g:=by
 refine ⟨?_,fun i b c hb=> ?_⟩
 ·obtain ⟨co,h3,h4⟩:=h.outer;rintro rfl;rw [hg] at h3;injection h3 with h3
  injection h3 with _ h3
  exact Yf h3 (by decide)
 ·obtain ⟨row,hr⟩: ∃row,rows[i]?=some row:=⟨_,Zf (by have:=(Zk hb).1;have:=h.len;omega)⟩;obtain ⟨-,cs,h1,h2⟩:=h.inner i b c row hb hr;rintro rfl;rw [hg] at h1;injection h1 with h1
  injection h1 with _ h1
  exact Yf h1 (by decide)
theorem bb (h:Mx W o bs rows) {g:Nat} (hg:o≠g/\ ∀(i b c:Nat),bs[i]?=some (b,c)->b≠g) (hb:BB W W1 g):Mx W1 o bs rows:=h.move (hb.block _ h.lt_o hg.1) (fun i b c hi=>hb.block _ (h.lt_i hi) (hg.2 i b c hi))
theorem set (h:Mx W o bs rows) {i b c j:Nat} {row:List Int} (hb:bs[i]?=some (b,c)) (hr:rows[i]?=some row) (x:Int):Mx (W.setCell ⟨b,j,none⟩ (.int .i64 x)) o bs (rows.set i (row.set j x)):=by
 have hne:=h.ne_o hb;refine ⟨by rw [List.length_set];exact h.len,?_,fun k b' c' row' hk hr'=> ?_,h.nodup⟩
 ·obtain ⟨co,h1,h2⟩:=h.outer;refine ⟨co,bHz h1 (Ne.symm hne) _,fun k b' c' row' hk hr'=> ?_⟩;by_cases hki:i=k
  ·subst hki
   have:row.set j x=row':=by
    rw [List.getElem?_set_self (Zk hr).1] at hr';exact Zn hr'
   rw [<-this,List.length_set];exact h2 _ _ _ _ hk hr
  ·rw [List.getElem?_set_ne hki] at hr';exact h2 k b' c' row' hk hr'
 ·by_cases hki:i=k
  ·subst hki;rw [hb] at hk;injection hk with hk
   injection hk with e1 e2
   subst e1;subst e2
   have e:row.set j x=row':=by
    rw [List.getElem?_set_self (Zk hr).1] at hr';exact Zn hr'
   subst e;obtain ⟨hc,cs,h1,h2⟩:=h.inner i b c row hb hr;refine ⟨by rw [List.length_set];exact hc,_,esz h1 j _,fun j' x' hx'=> ?_⟩;by_cases hj:j=j'
   ·subst hj;obtain ⟨hlt,e⟩:=Zk hx';rw [List.length_set] at hlt;rw [List.getElem_set_self] at e;subst e;have:=h2 j _ (Zf hlt);have hl:=(Array.getElem?_eq_some_iff.1 this).1;simp [hl]
   ·rw [List.getElem?_set_ne hj] at hx';rw [Array.getElem?_setIfInBounds_ne hj];exact h2 j' x' hx'
  ·rw [List.getElem?_set_ne hki] at hr';obtain ⟨hc,cs,h1,h2⟩:=h.inner k b' c' row' hk hr';exact ⟨hc,cs,bHz h1 (Ne.symm (h.ne_ij hb hk hki)) _,h2⟩
end Mx
theorem Fd.typed {W:World} {g:Nat} {wb p:Int} {S:Nat->Prop} (h:Fd W g wb p S): ∃cs,W.heap[g]?=some (.cells cs 172 (0,0)):=by
 obtain ⟨-,h|⟨-, -,a,b,h, -⟩⟩:=h
 ·exact ⟨_,h⟩
 ·exact ⟨_,h⟩
def mid (f:Int->Int->Int) (row pr:List Int) (k:Nat):List Int:=(List.zipWith f row pr).take k++row.drop k
theorem mid_zero (f:Int->Int->Int) (row pr:List Int):mid f row pr 0=row:=by simp [mid]
theorem mid_length (f:Int->Int->Int) (row pr:List Int) (k:Nat) (hk:k<=row.length) (hl:row.length=pr.length):(mid f row pr k).length=row.length:=by
 simp only [mid,List.length_append,List.length_take,List.length_zipWith,List.length_drop];omega
theorem mid_at (f:Int->Int->Int) (row pr:List Int) (k:Nat) (x:Int) (hx:row[k]?=some x) (hl:row.length=pr.length):(mid f row pr k)[k]?=some x:=by
 have hk:=(Zk hx).1;unfold mid;rw [List.getElem?_append_right (by simp;omega)];simp [List.length_take,List.length_zipWith, <-hl];rw [Nat.min_eq_left (by omega),Nat.sub_self,Nat.add_zero];exact hx
theorem mid_step (f:Int->Int->Int) (row pr:List Int) (k:Nat) (x y:Int) (hx:row[k]?=some x) (hy:pr[k]?=some y) (hl:row.length=pr.length):(mid f row pr k).set k (f x y)=mid f row pr (k+1):=by
 have hk:=(Zk hx).1;have hz:(List.zipWith f row pr)[k]?=some (f x y):=by simp [List.getElem?_zipWith,hx,hy]
 unfold mid;rw [List.set_append_right _ _ (by simp;omega)];have e:k - ((List.zipWith f row pr).take k).length=0:=by simp [List.length_take,List.length_zipWith, <-hl];omega
 rw [e,List.drop_eq_getElem_cons hk,Zh,List.take_add_one,hz,List.append_assoc];rfl
theorem mid_full (f:Int->Int->Int) (row pr:List Int) (hl:row.length=pr.length):mid f row pr row.length=List.zipWith f row pr:=by
 unfold mid;rw [List.drop_length,List.append_nil,List.take_of_length_le (by rw [List.length_zipWith];exact Nat.min_le_left _ _)]
structure Rd (W:World) (g fb ab tb o:Nat) (wb:Int) (S:Nat->Prop) (m co:Nat) (at_:Int):Prop where
 f:W.heap[fb]?=some (.cells #[.pointer (some ⟨g,0,none⟩)] 72 (0,0))
 a:W.heap[ab]?=some (.cells #[.slice (some ⟨o,0,none⟩) m co] 69 (0,0))
 t:W.heap[tb]?=some (.cells #[.int .i64 at_] 3 (0,0))
 fS: ¬S fb
 aS: ¬S ab
 tS: ¬S tb
 fg:fb≠g
 ag:ab≠g
 tg:tb≠g
theorem Rd.bs {W W1:World} {g fb ab tb o:Nat} {wb:Int} {S:Nat->Prop} {m co:Nat} {at_:Int} (h:Rd W g fb ab tb o wb S m co at_) (hb:BS W W1 g S):Rd W1 g fb ab tb o wb S m co at_:=
 ⟨hb.blk h.f h.fg h.fS,hb.blk h.a h.ag h.aS,hb.blk h.t h.tg h.tS,h.fS,h.aS,h.tS,h.fg,h.ag,h.tg⟩
def clrF (wb n:Int):Int->Int->Int:=fun x y=>Go.bits .xor .i64 x (gmul wb n y)
theorem set_same {α:Type} {l:List α} {i:Nat} {x:α} (h:l[i]?=some x):l.set i x=l:=by
 obtain ⟨hi,rfl⟩:=Zk h;simp
def S6 (fb ab tb g o m co at_ ba L ca bi k:Nat) (x y:Int) (W':World):Prop:=W'.cell? ⟨fb,0,none⟩=some (.pointer (some ⟨g,0,none⟩))/\W'.cell? ⟨ab,0,none⟩=some (.slice (some ⟨o,0,none⟩) m co)/\W'.cell? ⟨tb,0,none⟩=some (.int .i64 (at_:Int))/\W'.cell? ⟨o,at_,none⟩=some (.slice (some ⟨ba,0,none⟩) L ca)/\W'.cell? ⟨ba,k,none⟩=some (.int .i64 y)/\W'.cell? ⟨bi,k,none⟩=some (.int .i64 x)
theorem S6.bb {fb ab tb g o m co at_ ba L ca bi k:Nat} {x y:Int} {W W1:World} (hne:fb≠g/\ab≠g/\tb≠g/\o≠g/\ba≠g/\bi≠g) (h:S6 fb ab tb g o m co at_ ba L ca bi k x y W) (hb:BB W W1 g):S6 fb ab tb g o m co at_ ba L ca bi k x y W1:=
 ⟨cAz hb h.1 hne.1,cAz hb h.2.1 hne.2.1,cAz hb h.2.2.1 hne.2.2.1,cAz hb h.2.2.2.1 hne.2.2.2.1,cAz hb h.2.2.2.2.1 hne.2.2.2.2.1,cAz hb h.2.2.2.2.2 hne.2.2.2.2.2⟩
theorem S6.drew {fb ab tb g o m co at_ ba L ca bi k:Nat} {x y:Int} {W:World} (h:S6 fb ab tb g o m co at_ ba L ca bi k x y W):S6 fb ab tb g o m co at_ ba L ca bi k x y W.drew:=h
theorem S6.drewN {fb ab tb g o m co at_ ba L ca bi k:Nat} {x y:Int} {W:World} (h:S6 fb ab tb g o m co at_ ba L ca bi k x y W) (n:Nat):S6 fb ab tb g o m co at_ ba L ca bi k x y (W.drewN n):=h
theorem clear.calls (g fb ab tb o : Nat) (wb : Int) (S S0 : Nat -> Prop) (m co i at_ bi ci ba ca c L : Nat) (n : Int) (bs : List (Nat × Nat)) (rows : List (List Int)) (row pr : List Int) (W : World) (hw : wb = 8 \/ wb = 16) (hF : Fd W g wb (fpoly wb) S) (hS : ∀ k, S k -> k < W.heap.size)
  (hM:Mx W o bs rows) (hSb: ∀(i b c:Nat),bs[i]?=some (b,c)->S0 b) (n0: ∀k,S0 k->S k) (hR:Rd W g fb ab tb o wb S0 m co (at_:Int)) (hmm:at_<m) (hbi:bs[i]?=some (bi,ci)) (i0:rows[i]?=some row) (k0:bs[at_]?=some (ba,ca)) (hra:rows[at_]?=some pr) (hia:i≠at_) (hl:row.length=L) (hl':pr.length=L) (hll:L<=1000) (hc:row[c]?=some n):
  Calls prog 174 #[.slice (some ⟨bi,0,none⟩) L ci, .int .i64 (c:Int), .pointer (some ⟨fb,0,none⟩), .pointer (some ⟨ab,0,none⟩), .pointer (some ⟨tb,0,none⟩)] W fun e w'=>e= .returned (.tuple #[])/\Mx w' o bs (rows.set i (List.zipWith (clrF wb n) row pr))/\Fd w' g wb (fpoly wb) S/\BS W w' g S0:=by
 have HW:=Za hw;have HS:=Za hS;have p0:=Za hSb;have u0:=Za n0;have HF:=Za hF;have HR:=Za hR;have b0:=Za hbi;have v0:=Za i0;have l0:=Za k0;have A0:=Za hra
 have HM:=Za (show Mx W o bs (rows.set i (mid (clrF wb n) row pr 0)) by
  rw [mid_zero,set_same i0];exact hM)
 have hcl:c<row.length:=(Zk hc).1;have w0:W.cell? ⟨bi,c,none⟩=some (.int .i64 n):=hM.cUz hbi i0 hc;obtain ⟨F0,c0⟩:=hF.typed;have g0:=hM.ne_g c0;have d0:fb≠g/\ab≠g/\tb≠g/\o≠g/\ba≠g/\bi≠g:=⟨hR.fg,hR.ag,hR.tg,g0.1,g0.2 _ _ _ k0,g0.2 _ _ _ hbi⟩;have o0:=Za d0;have z0:=Za g0;have HL:=Za hl;have j0:=Za hl';have c1:(0:Int)<=(c:Int):=by omega
 have c2:(c:Int)<(L:Int):=by omega
 have m1:(0:Int)<=(at_:Int):=by omega
 have m2:(at_:Int)<(m:Int):=by omega
 clear hw hS hSb n0 hF hR hM hbi i0 k0 hra hc c0 g0 d0 hcl hl hl';go_enter func174,ntmps174;go_wp2
 go_loopw [15] (fun j wr=> ∃k:Nat,k<=L/\j= .int .i64 (k:Int)/\Aside0 (Mx wr o bs (rows.set i (mid (clrF wb n) row pr k)))/\Aside0 (Fd wr g wb (fpoly wb) S)/\Aside0 (BS W wr g S0)) (fun j _=>L - (intOf j).toNat)
 case atStart=>exact ⟨0,Nat.zero_le _,rfl,HM,HF,⟨BS.refl _ _ _⟩⟩
 clear HM HF w0;obtain ⟨k,hk,rfl,HM,HF,HB⟩:=hrel;by_cases hlt:k<L
 ·obtain ⟨x,hx⟩: ∃x,row[k]?=some x:=⟨_,Zf (by have:=HL.o;omega)⟩;obtain ⟨y,hy⟩: ∃y,pr[k]?=some y:=⟨_,Zf (by have:=j0.o;omega)⟩;have q0:=Za (HL.o.trans j0.o.symm);have hilt:i<rows.length:=(Zk v0.o).1;have hself:(rows.set i (mid (clrF wb n) row pr k))[i]?=some (mid (clrF wb n) row pr k):=List.getElem?_set_self hilt;have hat:(rows.set i (mid (clrF wb n) row pr k))[at_]?=some pr:=by rw [List.getElem?_set_ne hia];exact A0.o
  have h0:=HR.o.bs HB.o;have h6:S6 fb ab tb g o m co at_ ba L ca bi k x y wr:=⟨(abz h0.f 0).trans rfl,(abz h0.a 0).trans rfl,(abz h0.t 0).trans rfl,by rw [HM.o.cCz l0.o hat,j0.o],HM.o.cUz l0.o hat hy,HM.o.cUz b0.o hself (mid_at _ _ _ _ _ hx q0.o)⟩;have e0:=Za (mid_step (clrF wb n) row pr k x y hx hy q0.o);have f0:=Za hself;have h6':=h6;obtain ⟨k1,k2,k3,k4,k5,k6⟩:=h6';have hz:=HM.o.froz_i b0.o k;have hbl:=HM.o.lt_i b0.o;have r0:=Za (fun (w3:World) (h:BB wr w3 g)=>froz_bb h (p:=⟨bi,k,none⟩) hbl hz o0.o.2.2.2.2.2);have n1:(0:Int)<=(k:Int):=by omega
  have n2:(k:Int)<(L:Int):=by omega
  have t0:=Za (show∀k,S k->k<wr.drew.heap.size from fun k hk=>Zp (HS.o k hk) HB.o.size);clear hx hy hself hat h0 hz
  go_wp2_with fail
  refine ccz (n:=17) (S:=fun w'=>w'.cell? ⟨fb,0,none⟩=some (.pointer (some ⟨g,0,none⟩))/\w'.cell? ⟨ab,0,none⟩=some (.slice (some ⟨o,0,none⟩) m co)/\w'.cell? ⟨tb,0,none⟩=some (.int .i64 (at_:Int))/\w'.cell? ⟨o,at_,none⟩=some (.slice (some ⟨ba,0,none⟩) L ca)/\w'.cell? ⟨ba,k,none⟩=some (.int .i64 y)/\w'.cell? ⟨bi,k,none⟩=some (.int .i64 x)) (ds:= [16]) (bA 17 0) kr_ rfl rfl ⟨k1,k2,k3,k4,k5,k6⟩ (fun hHeld=> ?_);refine pu_ 0 18 1 ?_;refine pu_ 1 19 3 ?_;refine pu_ 2 20 7 ?_;refine pu_ 5 23 39 ?_;refine pu_ 10 28 1063 ?_;refine tk_ 3 21 1071 hHeld ?_;refine tk_ 4 22 1087 hHeld ?_;refine tk_ 6 24 1151 hHeld ?_;refine tk_ 7 25 1279 hHeld ?_;refine pu_ 8 26 1535 ?_;refine tk_ 9 27 2047 hHeld ?_;refine pu_ 11 29 4095 ?_;refine tk_ 12 30 8191 hHeld ?_;refine one_ (i:=13) (N:=some 31) (bA 17 16383) rfl rfl kr_ (by decide) (fun K hK=> ?_);refine goes_ func103 kr_ rfl #[.pointer (some ⟨g,0,none⟩), .int .i64 n, .int .i64 y] (by rfl) rfl rfl am_ ?_
  with_reducible refine (cLz.calls g S wb n y _ HW.o HF.o.drew t0.o).mono ?_
  rintro e w3 ⟨rfl,q1,q2⟩;refine ⟨_,rfl,?_⟩;have q3:BB wr w3 g:=⟨q2.os,q2.tape,q2.output,q2.size,q2.block⟩;have a0:=S6.bb o0.o h6 q3;have D0:=r0.o w3 q3;have E0:=a0.2.2.2.2.2;have Q1:=Za q1;have Q3:=Za q3;clear q1 q2 q3;refine hK.out _ _ ⟨a0.1,a0.2.1,a0.2.2.1,a0.2.2.2.1,a0.2.2.2.2.1,a0.2.2.2.2.2⟩ (fun hHeld=> ?_);clear hK K;refine norm_ (a':= ?_) ?_ ?_;rotate_left
  ·show Act.put _ (some 31) _=_;simp only [Act.put,Zg,Zh,Zi,i64_w,i32_w];rfl
  refine pu_ 14 32 32767 ?_;refine pu_ 15 33 65535 ?_;refine last_ (i:=16) (N:=none) (bA 17 131071) rfl rfl kr_ (by decide) (fun K hK=> ?_);refine skip_ (w1:= ?_) (by rfl) rfl ?_ ?_;rotate_left
  ·go_simp;rfl
  refine hK.out _ _ ?_;clear hK K;refine done_ kr_ ?_
  have y0:=Za (show Mx (w3.setCell ⟨bi,k,none⟩ (.int .i64 (Go.bits .xor .i64 x (gmul wb n y)))) o bs (rows.set i (mid (clrF wb n) row pr (k+1))) by
   have h1:=(HM.o.bb z0.o Q3.o).set (j:=k) b0.o f0.o (Go.bits .xor .i64 x (gmul wb n y));rw [List.set_set] at h1
   rw [<-e0.o];exact h1)
  have C0:=Za (Q1.o.set (q:=⟨bi,k,none⟩) (u0.o _ (p0.o _ _ _ b0.o)) (.int .i64 (Go.bits .xor .i64 x (gmul wb n y))));have B0:=Za ((HB.o.trans (BS.of_bb Q3.o)).set (p:=⟨bi,k,none⟩) (.inl (p0.o _ _ _ b0.o)) (.int .i64 (Go.bits .xor .i64 x (gmul wb n y))));go_wp2;go_roundw
  case rel=>exact ⟨k+1,by omega,by go_num,y0,C0,B0⟩
  case measure=>simp [intOf];omega
 ·obtain rfl:k=L:=by omega
  have HE:=Za HM.o;rw [<-HL.o,mid_full _ _ _ (HL.o.trans j0.o.symm)] at HE;go_wp2
  go_end0
  exact ⟨rfl,HE.o,HF.o,HB.o⟩
def swapL {α:Type} (l:List α) (i k:Nat):List α:=match l[i]?,l[k]? with
 |some x,some y=>(l.set i y).set k x
 |_,_=>l
def clrAll (wb:Int) (at_ c:Nat) (pr:List Int) (rows:List (List Int)):List (List Int):=rows.mapIdx fun i row=>if i=at_ then row else List.zipWith (clrF wb (row.getD c 0)) row pr
def nzB (c:Nat) (row:List Int):Bool:=row.getD c 0 !=0
def redStep (wb:Int) (c:Nat) (rows:List (List Int)) (at_:Nat):List (List Int)×Nat:=
 let k:=idxF (nzB c) (rows.drop at_)
 if k<0 then (rows,at_) else
  let r1:=swapL rows at_ (at_+k.toNat)
  let pr:=r1.getD at_ []
  let p2:=List.zipWith (fun x _=>gmul wb x (ginv wb (pr.getD c 0))) pr pr
  (clrAll wb at_ c p2 (r1.set at_ p2),at_+1)
def redF (wb:Int):Nat->Nat->List (List Int)->Nat->List (List Int)×Nat
 |0,_,rows,at_=>(rows,at_)
 |n+1,c,rows,at_=>if at_=rows.length then (rows,at_) else redF wb n (c+1) (redStep wb c rows at_).1 (redStep wb c rows at_).2
theorem dsz {α:Type} (l:List α) (i k:Nat):(swapL l i k).length=l.length:=by
 unfold swapL;split<;>simp
theorem swapL_eq {α:Type} (l:List α) (i k:Nat) (x y:α) (hx:l[i]?=some x) (hy:l[k]?=some y):swapL l i k=(l.set i y).set k x:=by
 unfold swapL;rw [hx,hy]
theorem dtz {α:Type} (l:List α) (i k:Nat) (x y:α) (hx:l[i]?=some x) (hy:l[k]?=some y) (j:Nat):(swapL l i k)[j]?=if j=k then some x else if j=i then some y else l[j]?:=by
 rw [swapL_eq l i k x y hx hy];have h1:=(Zk hx).1;have h2:=(Zk hy).1;by_cases hjk:j=k
 ·subst hjk;rw [List.getElem?_set_self (by simpa using h2),Ya rfl]
 ·rw [List.getElem?_set_ne (Ne.symm hjk),Yb hjk];by_cases hji:j=i
  ·subst hji;rw [List.getElem?_set_self h1,Ya rfl]
  ·rw [List.getElem?_set_ne (Ne.symm hji),Yb hji]
theorem swapL_map {α β:Type} (f:α->β) (l:List α) (i k:Nat):(swapL l i k).map f=swapL (l.map f) i k:=by
 unfold swapL;rw [List.getElem?_map,List.getElem?_map];cases l[i]?<;>cases l[k]?<;>simp [List.map_set]
theorem swapL_perm {α:Type} (l:List α) (i k:Nat):(swapL l i k).Perm l:=by
 unfold swapL;split
 ·rename_i x y hx hy
  obtain ⟨h1,rfl⟩:=Zk hx;obtain ⟨h2,rfl⟩:=Zk hy;exact List.set_set_perm h1 h2
 ·exact List.Perm.refl _
theorem swapL_mem {α:Type} (l:List α) (i k:Nat) (x:α) (h:x∈swapL l i k):x∈l:=(swapL_perm l i k).mem_iff.1 h
theorem cqz (wb:Int) (at_ c:Nat) (pr:List Int) (rows:List (List Int)):(clrAll wb at_ c pr rows).length=rows.length:=by simp [clrAll]
theorem duz (wb:Int) (at_ c:Nat) (pr:List Int) (rows:List (List Int)) (i:Nat) (row:List Int) (h:rows[i]?=some row):(clrAll wb at_ c pr rows)[i]?=some (if i=at_ then row else List.zipWith (clrF wb (row.getD c 0)) row pr):=by
 simp [clrAll,List.getElem?_mapIdx,h]
def clrTo (wb:Int) (at_ c:Nat) (pr:List Int) (rows:List (List Int)) (i:Nat):List (List Int):=(clrAll wb at_ c pr rows).take i++rows.drop i
theorem clrTo_zero (wb:Int) (at_ c:Nat) (pr:List Int) (rows:List (List Int)):clrTo wb at_ c pr rows 0=rows:=by simp [clrTo]
theorem clrTo_full (wb:Int) (at_ c:Nat) (pr:List Int) (rows:List (List Int)):clrTo wb at_ c pr rows rows.length=clrAll wb at_ c pr rows:=by
 unfold clrTo;rw [List.drop_length,List.append_nil,List.take_of_length_le (by rw [cqz];exact Zv _)]
theorem clrTo_length (wb:Int) (at_ c:Nat) (pr:List Int) (rows:List (List Int)) (i:Nat) (hi:i<=rows.length):(clrTo wb at_ c pr rows i).length=rows.length:=by
 simp [clrTo,cqz];omega
theorem clrTo_at (wb:Int) (at_ c:Nat) (pr:List Int) (rows:List (List Int)) (i:Nat) (row:List Int) (h:rows[i]?=some row):(clrTo wb at_ c pr rows i)[i]?=some row:=by
 have hi:=(Zk h).1;unfold clrTo;rw [List.getElem?_append_right (by rw [List.length_take];exact Nat.min_le_left _ _),List.length_take,cqz,Nat.min_eq_left (by omega),Nat.sub_self,List.getElem?_drop];exact h
theorem clrTo_pr (wb:Int) (at_ c:Nat) (pr:List Int) (rows:List (List Int)) (i:Nat) (h:rows[at_]?=some pr):(clrTo wb at_ c pr rows i)[at_]?=some pr:=by
 have hi:=(Zk h).1;unfold clrTo;by_cases hlt:at_<i
 ·rw [List.getElem?_append_left (by simp [cqz];omega),List.getElem?_take,Ya hlt,duz wb at_ c pr rows at_ pr h,Ya rfl]
 ·rw [List.getElem?_append_right (by simp [cqz];omega),List.length_take,cqz,List.getElem?_drop];rw [show i+(at_ - min i rows.length)=at_ by omega];exact h
theorem clrTo_step (wb:Int) (at_ c:Nat) (pr:List Int) (rows:List (List Int)) (i:Nat) (row:List Int) (h:rows[i]?=some row) (hne:i≠at_):(clrTo wb at_ c pr rows i).set i (List.zipWith (clrF wb (row.getD c 0)) row pr)=clrTo wb at_ c pr rows (i+1):=by
 have hi:=(Zk h).1;have h2:=duz wb at_ c pr rows i row h;rw [Yb hne] at h2;unfold clrTo;rw [List.set_append_right _ _ (by rw [List.length_take];exact Nat.min_le_left _ _),List.length_take,cqz,Nat.min_eq_left (by omega),Nat.sub_self,List.drop_eq_getElem_cons hi,Zh,List.take_add_one,h2,List.append_assoc];rfl
theorem clrTo_skip (wb:Int) (at_ c:Nat) (pr:List Int) (rows:List (List Int)) (row:List Int) (h:rows[at_]?=some row):clrTo wb at_ c pr rows at_=clrTo wb at_ c pr rows (at_+1):=by
 have hi:=(Zk h).1;have h2:=duz wb at_ c pr rows at_ row h;rw [Ya rfl] at h2;obtain ⟨_,e⟩:=Zk h;unfold clrTo;rw [List.drop_eq_getElem_cons hi,e,List.take_add_one,h2,List.append_assoc];rfl
theorem Mx.swap {W:World} {o:Nat} {bs:List (Nat×Nat)} {rows:List (List Int)} (h:Mx W o bs rows) {i k bi ci bk ck:Nat} {ri rk:List Int} (hbi:bs[i]?=some (bi,ci)) (hbk:bs[k]?=some (bk,ck)) (b0:rows[i]?=some ri) (a0:rows[k]?=some rk):
  Mx ((W.setCell ⟨o,i,none⟩ (.slice (some ⟨bk,0,none⟩) rk.length ck)).setCell ⟨o,k,none⟩ (.slice (some ⟨bi,0,none⟩) ri.length ci)) o (swapL bs i k) (swapL rows i k):=by
 have hne: ∀(j b c:Nat),bs[j]?=some (b,c)->b≠o:=fun j b c hb=>h.ne_o hb
 have hsw: ∀(j b c:Nat),(swapL bs i k)[j]?=some (b,c)-> ∃j':Nat,bs[j']?=some (b,c)/\rows[j']?=(swapL rows i k)[j]?:=by
  intro j b c hj;rw [dtz bs i k _ _ hbi hbk] at hj;rw [dtz rows i k _ _ b0 a0];by_cases h1:j=k
  ·rw [Ya h1] at hj|-;exact ⟨i,by rw [hbi];exact hj,b0⟩
  ·rw [Yb h1] at hj|-;by_cases h2:j=i
   ·rw [Ya h2] at hj|-;exact ⟨k,by rw [hbk];exact hj,a0⟩
   ·rw [Yb h2] at hj|-;exact ⟨j,hj,rfl⟩
 refine ⟨by rw [dsz,dsz];exact h.len,?_,fun j b c row hj hr=> ?_,?_⟩
 ·obtain ⟨co,h1,h2⟩:=h.outer;have hi:=(Array.getElem?_eq_some_iff.1 (h2 i _ _ _ hbi b0)).1;have hk:=(Array.getElem?_eq_some_iff.1 (h2 k _ _ _ hbk a0)).1;refine ⟨_,esz (esz h1 i _) k _,fun j b c row hj hr=> ?_⟩;rw [dtz bs i k _ _ hbi hbk] at hj;rw [dtz rows i k _ _ b0 a0] at hr;by_cases h3:j=k
  ·subst h3;rw [Ya rfl] at hj hr;cases hj
   cases hr
   simp [hk]
  ·rw [Yb h3] at hj hr;rw [Array.getElem?_setIfInBounds_ne (Ne.symm h3)];by_cases h4:j=i
   ·subst h4;rw [Ya rfl] at hj hr;cases hj
    cases hr
    simp [hi]
   ·rw [Yb h4] at hj hr;rw [Array.getElem?_setIfInBounds_ne (Ne.symm h4)];exact h2 j b c row hj hr
 ·obtain ⟨j',hj',hr'⟩:=hsw j b c hj;rw [hr] at hr';obtain ⟨hc,cs,h1,h2⟩:=h.inner j' b c row hj' hr';exact ⟨hc,cs,bHz (bHz h1 (hne _ _ _ hj') _) (hne _ _ _ hj') _,h2⟩
 ·have:=(swapL_perm (bs.map Prod.fst) i k).nodup_iff.2 h.nodup;rwa [<-swapL_map] at this
structure RedSt (W wr:World) (g fb ab tb o:Nat) (wb:Int) (S S0:Nat->Prop) (m co L at_:Nat) (bs:List (Nat×Nat)) (rows:List (List Int)):Prop where
 mx:Mx wr o bs rows
 rd:Rd wr g fb ab tb o wb S0 m co (at_:Int)
 fd:Fd wr g wb (fpoly wb) S
 bsw:BS W wr g S0
 sb: ∀(i b c:Nat),bs[i]?=some (b,c)->S0 b
 so:S0 o
 s0: ∀k,S0 k->S k
 st:S tb
 len:rows.length=m
 each: ∀row,row∈rows->row.length=L
 tbw:W.heap.size<=tb
 ne:fb≠tb/\ab≠tb
namespace RedSt
variable {W wr w1 : World} {g fb ab tb o : Nat} {wb : Int} {S S0 : Nat -> Prop} {m co L at_ : Nat} {bs : List (Nat × Nat)} {rows : List (List Int)}
theorem ng (h:RedSt W wr g fb ab tb o wb S S0 m co L at_ bs rows):o≠g/\ ∀(i b c:Nat),bs[i]?=some (b,c)->b≠g:=by
 obtain ⟨cs,hc⟩:=h.fd.typed;exact h.mx.ne_g hc
theorem drewN (h:RedSt W wr g fb ab tb o wb S S0 m co L at_ bs rows) (n:Nat):RedSt W (wr.drewN n) g fb ab tb o wb S S0 m co L at_ bs rows:=
 ⟨h.mx.drewN n,h.rd.bs ((BS.refl _ _ _).drewN n),h.fd.drewN n,h.bsw.drewN n,h.sb,h.so,h.s0,h.st,h.len,h.each,h.tbw,h.ne⟩
theorem drew (h:RedSt W wr g fb ab tb o wb S S0 m co L at_ bs rows):RedSt W wr.drew g fb ab tb o wb S S0 m co L at_ bs rows:=h.drewN 1
theorem alloc (h:RedSt W wr g fb ab tb o wb S S0 m co L at_ bs rows) (x:Obj):RedSt W (wr.alloc x) g fb ab tb o wb S S0 m co L at_ bs rows:=
 ⟨h.mx.alloc x,h.rd.bs ((BS.refl _ _ _).alloc x),h.fd.alloc x,h.bsw.alloc x,h.sb,h.so,h.s0,h.st,h.len,h.each,h.tbw,h.ne⟩
theorem bb (h:RedSt W wr g fb ab tb o wb S S0 m co L at_ bs rows) (hf:Fd w1 g wb (fpoly wb) S) (hb:BB wr w1 g):RedSt W w1 g fb ab tb o wb S S0 m co L at_ bs rows:=
 ⟨h.mx.bb h.ng hb,h.rd.bs (BS.of_bb hb),hf,h.bsw.trans (BS.of_bb hb),h.sb,h.so,h.s0,h.st,h.len,h.each,h.tbw,h.ne⟩
theorem setI (h:RedSt W wr g fb ab tb o wb S S0 m co L at_ bs rows) {i b c:Nat} {row:List Int} (hb:bs[i]?=some (b,c)) (hr:rows[i]?=some row) (j:Nat) (x:Int):
  RedSt W (wr.setCell ⟨b,j,none⟩ (.int .i64 x)) g fb ab tb o wb S S0 m co L at_ bs (rows.set i (row.set j x)):=by
 have hs:=h.sb _ _ _ hb;refine ⟨h.mx.set hb hr x,h.rd.bs ((BS.refl _ _ _).set (p:=⟨b,j,none⟩) (.inl hs) _),h.fd.set (q:=⟨b,j,none⟩) (h.s0 _ hs) _,h.bsw.set (p:=⟨b,j,none⟩) (.inl hs) _,h.sb,h.so,h.s0,h.st,by rw [List.length_set];exact h.len,fun r hr'=> ?_,h.tbw,h.ne⟩;rcases List.mem_or_eq_of_mem_set hr' with h1|h1
 ·exact h.each r h1
 ·rw [h1,List.length_set];exact h.each row (Zo hr)
theorem swap (h:RedSt W wr g fb ab tb o wb S S0 m co L at_ bs rows) {i k bi ci bk ck:Nat} (hbi:bs[i]?=some (bi,ci)) (hbk:bs[k]?=some (bk,ck)):
  RedSt W ((wr.setCell ⟨o,i,none⟩ (.slice (some ⟨bk,0,none⟩) L ck)).setCell ⟨o,k,none⟩ (.slice (some ⟨bi,0,none⟩) L ci)) g fb ab tb o wb S S0 m co L at_ (swapL bs i k) (swapL rows i k):=by
 have hl:=h.mx.len;obtain ⟨ri,b0⟩: ∃r,rows[i]?=some r:=⟨_,Zf (by have:=(Zk hbi).1;omega)⟩;obtain ⟨rk,a0⟩: ∃r,rows[k]?=some r:=⟨_,Zf (by have:=(Zk hbk).1;omega)⟩;have e1:=h.each ri (Zo b0);have e2:=h.each rk (Zo a0);have hm:=h.mx.swap hbi hbk b0 a0;rw [e1,e2] at hm;have s1:BS wr ((wr.setCell ⟨o,i,none⟩ (.slice (some ⟨bk,0,none⟩) L ck)).setCell ⟨o,k,none⟩ (.slice (some ⟨bi,0,none⟩) L ci)) g S0:=(((BS.refl wr g S0).set (p:=⟨o,i,none⟩) (.inl h.so) _).set (p:=⟨o,k,none⟩) (.inl h.so) _);refine ⟨hm,h.rd.bs s1,(h.fd.set (q:=⟨o,i,none⟩) (h.s0 _ h.so) _).set (q:=⟨o,k,none⟩) (h.s0 _ h.so) _,h.bsw.trans s1,fun j b c hj=> ?_,h.so,h.s0,h.st,by rw [dsz];exact h.len,fun r hr=>h.each r (swapL_mem _ _ _ _ hr),h.tbw,h.ne⟩;rw [dtz bs i k _ _ hbi hbk] at hj;by_cases h1:j=k
 ·rw [Ya h1] at hj;cases hj;exact h.sb _ _ _ hbi
 ·rw [Yb h1] at hj;by_cases h2:j=i
  ·rw [Ya h2] at hj;cases hj;exact h.sb _ _ _ hbk
  ·rw [Yb h2] at hj;exact h.sb _ _ _ hj
theorem clr (h:RedSt W wr g fb ab tb o wb S S0 m co L at_ bs rows) {rows':List (List Int)} (hm:Mx w1 o bs rows') (hf:Fd w1 g wb (fpoly wb) S) (hb:BS wr w1 g S0) (hl:rows'.length=m) (he: ∀row,row∈rows'->row.length=L):RedSt W w1 g fb ab tb o wb S S0 m co L at_ bs rows':=
 ⟨hm,h.rd.bs hb,hf,h.bsw.trans hb,h.sb,h.so,h.s0,h.st,hl,he,h.tbw,h.ne⟩
theorem setT (h:RedSt W wr g fb ab tb o wb S S0 m co L at_ bs rows) (z:Nat):RedSt W (wr.setCell ⟨tb,0,none⟩ (.int .i64 (z:Int))) g fb ab tb o wb S S0 m co L z bs rows:=by
 have hto:tb≠o:=fun e=>h.rd.tS (e▸h.so)
 have htb: ∀(i b c:Nat),bs[i]?=some (b,c)->b≠tb:=fun i b c hb e=>h.rd.tS (e▸h.sb _ _ _ hb)
 refine ⟨h.mx.move (Below.heap_setCell _ _ _ _ (Ne.symm hto)) (fun i b c hi=>Below.heap_setCell _ _ _ _ (htb i b c hi)),⟨bHz h.rd.f h.ne.1 _,bHz h.rd.a h.ne.2 _,coz h.rd.t 0 _ rfl,h.rd.fS,h.rd.aS,h.rd.tS,h.rd.fg,h.rd.ag,h.rd.tg⟩,h.fd.set (q:=⟨tb,0,none⟩) h.st _,h.bsw.set (p:=⟨tb,0,none⟩) (.inr h.tbw) _,h.sb,h.so,h.s0,h.st,h.len,h.each,h.tbw,h.ne⟩
end RedSt
end Go.Proofs.Xc
end
