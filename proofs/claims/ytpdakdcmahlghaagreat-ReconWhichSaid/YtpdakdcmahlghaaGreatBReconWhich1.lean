-- Joined texts of this work (wip/tools/bundle.py).
import Derived.Test.YtpdakdcmahlghaaGreatProg
import Derived.Laws.BitsAllLaws
import Derived.Laws.BitsLemmas
import Derived.Lib.Strings
import Derived.Lib.Slices
import Derived.Lib.Small
import Derived.Lib.Walk
import Derived.Lib.BitFns
set_option maxHeartbeats 4000000
set_option maxRecDepth 100000
section
namespace Go.Proofs.Xc
def xt (h q a:Nat):Nat:=if a<h then 2*a else (2*a)^^^q
def mulL (h q:Nat):Nat->Nat->Nat->Nat
 |0,_,_=>0
 |n+1,a,b=>(if b % 2=1 then a else 0)^^^mulL h q n (xt h q a) (b / 2)
theorem xt_zero (h q:Nat) (hh:0<h):xt h q 0=0:=by simp [xt,hh]
theorem bMz {a m:Nat} (h:a<2^(m+1)):(a<2^m)↔(a.testBit m=false):=by
 constructor
 ·exact fun h=>Nat.testBit_lt_two_pow h
 ·intro ht;apply Nat.lt_pow_two_of_testBit
  intro i hi;rcases Nat.lt_or_ge m i with h1|h1
  ·exact Nat.testBit_lt_two_pow (Nat.lt_of_lt_of_le h (Nat.pow_le_pow_right (by omega) h1))
  ·have:i=m:=by omega
   rw [this];exact ht
theorem two_mul_xor (a b:Nat):2*(a^^^b)=(2*a)^^^(2*b):=by
 apply Nat.eq_of_testBit_eq
 intro i;rcases i with _|i
 ·simp
 have e: ∀x:Nat,(2*x).testBit (i+1)=x.testBit i:=fun x=>by rw [Nat.testBit_succ,Nat.mul_div_cancel_left _ (by omega)]
 rw [e,Nat.testBit_xor,Nat.testBit_xor,e,e]
theorem xt_xor (m q a b:Nat) (ha:a<2^(m+1)) (hb:b<2^(m+1)):xt (2^m) q (a^^^b)=xt (2^m) q a^^^xt (2^m) q b:=by
 unfold xt;simp only [bMz ha,bMz hb,bMz (Nat.xor_lt_two_pow ha hb),Nat.testBit_xor,two_mul_xor];cases a.testBit m<;>cases b.testBit m<;>simp
 ·exact (Nat.xor_assoc _ _ _)
 ·rw [Nat.xor_assoc,Nat.xor_assoc,Nat.xor_comm q]
 ·rw [Nat.xor_assoc, <-Nat.xor_assoc q,Nat.xor_comm q,Nat.xor_assoc,Nat.xor_self,Nat.xor_zero]
theorem xt_lt (m q a:Nat) (ha:a<2^(m+1)) (hq:q<2^(m+2)) (hq1:q.testBit (m+1)=true):xt (2^m) q a<2^(m+1):=by
 unfold xt;split
 ·rw [Nat.pow_succ];omega
 ·rename_i hge
  rw [bMz ha] at hge;have h2:2*a<2^(m+2):=by rw [Nat.pow_succ];omega
  rw [show m+2=m+1+1 from rfl] at h2 hq;rw [bMz (Nat.xor_lt_two_pow h2 hq),Nat.testBit_xor,hq1];have:(2*a).testBit (m+1)=a.testBit m:=by rw [Nat.testBit_succ];congr 1;omega
  rw [this]
  simpa using hge
section
variable {m q : Nat} (hq : q < 2 ^ (m + 2)) (hq1 : q.testBit (m + 1) = true)
include hq hq1
theorem mulL_lt: ∀(n a b:Nat),a<2^(m+1)->mulL (2^m) q n a b<2^(m+1)
 |0,_,_,_=>Nat.pow_pos (by omega)
 |n+1,a,b,ha=>by
  unfold mulL;exact Nat.xor_lt_two_pow (by split;exact ha;exact Nat.pow_pos (by omega)) (mulL_lt n _ _ (xt_lt m q a ha hq hq1))
theorem mulL_xt: ∀(n a b:Nat),a<2^(m+1)->mulL (2^m) q n (xt (2^m) q a) b=xt (2^m) q (mulL (2^m) q n a b)
 |0,_,_,_=>by simp [mulL,xt_zero,Nat.pow_pos]
 |n+1,a,b,ha=>by
  have h1:=xt_lt m q a ha hq hq1;unfold mulL;rw [xt_xor _ _ _ _ (by split;exact ha;exact Nat.pow_pos (by omega)) (mulL_lt hq hq1 n _ _ h1),mulL_xt n _ _ h1];congr 1
  split
  ·rfl
  ·rw [xt_zero _ _ (Nat.pow_pos (by omega))]
theorem fpz: ∀(n a c b:Nat),a<2^(m+1)->c<2^(m+1)->mulL (2^m) q n (a^^^c) b=mulL (2^m) q n a b^^^mulL (2^m) q n c b
 |0,_,_,_,_,_=>by simp [mulL]
 |n+1,a,c,b,ha,hc=>by
  unfold mulL;rw [xt_xor _ _ _ _ ha hc,fpz n _ _ _ (xt_lt m q a ha hq hq1) (xt_lt m q c hc hq hq1)];split
  ·rw [Nat.xor_assoc,Nat.xor_assoc];congr 1;rw [<-Nat.xor_assoc, <-Nat.xor_assoc,Nat.xor_comm c]
  ·simp
omit hq hq1
theorem e2z: ∀(n a b c:Nat),mulL (2^m) q n a (b^^^c)=mulL (2^m) q n a b^^^mulL (2^m) q n a c
 |0,_,_,_=>by simp [mulL]
 |n+1,a,b,c=>by
  have hd:(b^^^c) / 2=(b / 2)^^^(c / 2):=by
   apply Nat.eq_of_testBit_eq;intro i;simp [Nat.testBit_div_two,Nat.testBit_xor]
  have hm:((b^^^c) % 2=1)↔(¬((b % 2=1)↔(c % 2=1))):=by
   have e: ∀x:Nat,(x % 2=1)↔(x.testBit 0=true):=fun x=>by simp
   rw [e,e,e,Nat.testBit_xor];cases b.testBit 0<;>cases c.testBit 0<;>simp
  unfold mulL;rw [hd,e2z n];simp only [hm];by_cases h1:b % 2=1<;>by_cases h2:c % 2=1<;>simp only [h1,h2,if_true,if_false,iff_true,iff_false,not_true,not_false_iff,Nat.zero_xor]
  ·rw [Nat.xor_assoc, <-Nat.xor_assoc _ a,Nat.xor_comm _ a,Nat.xor_assoc a, <-Nat.xor_assoc a a,Nat.xor_self,Nat.zero_xor]
  ·rw [Nat.xor_assoc]
  ·rw [<-Nat.xor_assoc, <-Nat.xor_assoc,Nat.xor_comm a]
end
theorem dRz {f g : Nat -> Nat} : ∀ (w : Nat), (∀ a b, a < 2 ^ w -> b < 2 ^ w -> f (a ^^^ b) = f a ^^^ f b) -> (∀ a b, a < 2 ^ w -> b < 2 ^ w -> g (a ^^^ b) = g a ^^^ g b) ->
  (∀i,i<w->f (2^i)=g (2^i))-> ∀a,a<2^w->f a=g a
 |0,hf,hg,_,a,ha=>by
  have:a=0:=by simpa using ha
  subst this;have h1:=hf 0 0 (by simp) (by simp);have h2:=hg 0 0 (by simp) (by simp);simp at h1 h2;rw [h1,h2]
 |w+1,hf,hg,hb,a,ha=>by
  have hlt: ∀x,x<2^w->x<2^(w+1):=fun x hx=>by rw [Nat.pow_succ];omega
  have ih:=dRz w (fun a b h1 h2=>hf a b (hlt a h1) (hlt b h2)) (fun a b h1 h2=>hg a b (hlt a h1) (hlt b h2)) (fun i hi=>hb i (by omega));by_cases h:a<2^w
  ·exact ih a h
  ·have hbit : a.testBit w = true := by
    cases ht:a.testBit w with
    |true=>rfl
    |false=>exact absurd ((bMz ha).2 ht) h
   have hp:(2:Nat)^w<2^(w+1):=Nat.pow_lt_pow_right (by omega) (by omega)
   have hc:a^^^2^w<2^w:=by
    rw [bMz (Nat.xor_lt_two_pow ha hp),Nat.testBit_xor,hbit,Nat.testBit_two_pow_self];rfl
   have e:a=(a^^^2^w)^^^2^w:=by rw [Nat.xor_assoc,Nat.xor_self,Nat.xor_zero]
   rw [e,hf _ _ (hlt _ hc) hp,hg _ _ (hlt _ hc) hp,ih _ hc,hb w (by omega)]
def xtn (h q:Nat):Nat->Nat->Nat
 |0,a=>a
 |i+1,a=>xtn h q i (xt h q a)
theorem e3z {h q:Nat} (hh:0<h): ∀(n b:Nat),mulL h q n 0 b=0
 |0,_=>rfl
 |n+1,b=>by unfold mulL;rw [xt_zero _ _ hh,e3z hh];simp
theorem dYz (h q:Nat): ∀(n a:Nat),mulL h q n a 0=0
 |0,_=>rfl
 |n+1,a=>by unfold mulL;rw [Nat.zero_div,dYz];simp
theorem mulL_pow (h q:Nat): ∀(i n a:Nat),i<n->mulL h q n a (2^i)=xtn h q i a
 |0,n+1,a,_=>by
  unfold mulL xtn;simp [dYz]
 |i+1,n+1,a,hi=>by
  unfold mulL xtn;rw [if_neg (by rw [Nat.pow_succ];omega),Nat.pow_succ,Nat.mul_div_cancel _ (by omega),Nat.zero_xor];exact mulL_pow h q i n _ (by omega)
structure Gf (m q:Nat):Prop where
 hq:q<2^(m+2)
 hq1:q.testBit (m+1)=true
 one: ∀i,i<m+1->mulL (2^m) q (m+1) 1 (2^i)=2^i
 xtp: ∀i,i<m+1->xtn (2^m) q i 1=2^i
def gm (m q a b:Nat):Nat:=mulL (2^m) q (m+1) a b
namespace Gf
variable {m q : Nat} (F : Gf m q)
include F
theorem lt {a b:Nat} (ha:a<2^(m+1)):gm m q a b<2^(m+1):=mulL_lt F.hq F.hq1 _ _ _ ha
theorem dlz {a c b:Nat} (ha:a<2^(m+1)) (hc:c<2^(m+1)):gm m q (a^^^c) b=gm m q a b^^^gm m q c b:=fpz F.hq F.hq1 _ _ _ _ ha hc
omit F in
theorem c7z (a b c:Nat):gm m q a (b^^^c)=gm m q a b^^^gm m q a c:=e2z _ _ _ _
omit F in
theorem dmz (b:Nat):gm m q 0 b=0:=e3z (Nat.pow_pos (by omega)) _ _
omit F in
theorem caz (a:Nat):gm m q a 0=0:=dYz _ _ _ _
theorem xt_left {a b:Nat} (ha:a<2^(m+1)):gm m q (xt (2^m) q a) b=xt (2^m) q (gm m q a b):=mulL_xt F.hq F.hq1 _ _ _ ha
theorem xtn_left: ∀(i:Nat) {a b:Nat},a<2^(m+1)->gm m q (xtn (2^m) q i a) b=xtn (2^m) q i (gm m q a b)
 |0,_,_,_=>rfl
 |i+1,a,b,ha=>by
  unfold xtn;rw [xtn_left i (xt_lt m q a ha F.hq F.hq1),F.xt_left ha]
theorem dnz {b:Nat} (hb:b<2^(m+1)):gm m q 1 b=b:=
 dRz (f:=fun b=>gm m q 1 b) (g:=fun b=>b) (m+1) (fun a b _ _=>c7z 1 a b) (fun _ _ _ _=>rfl) F.one b hb
theorem pow_left {i b:Nat} (hi:i<m+1) (hb:b<2^(m+1)):gm m q (2^i) b=xtn (2^m) q i b:=by
 rw [<-F.xtp i hi,F.xtn_left i (Nat.one_lt_two_pow (by omega)),F.dnz hb]
theorem comm {a b:Nat} (ha:a<2^(m+1)) (hb:b<2^(m+1)):gm m q a b=gm m q b a:=by
 refine dRz (f:=fun a=>gm m q a b) (g:=fun a=>gm m q b a) (m+1) (fun _ _ h1 h2=>F.dlz h1 h2) (fun _ _ _ _=>c7z _ _ _) (fun i hi=> ?_) a ha;show gm m q (2^i) b=gm m q b (2^i);rw [F.pow_left hi hb];exact (mulL_pow _ _ i (m+1) b hi).symm
theorem assoc {a b:Nat} (ha:a<2^(m+1)) (hb:b<2^(m+1)) (c:Nat):gm m q (gm m q a b) c=gm m q a (gm m q b c):=by
 refine dRz (f:=fun a=>gm m q (gm m q a b) c) (g:=fun a=>gm m q a (gm m q b c)) (m+1) (fun x y h1 h2=> ?_) (fun _ _ h1 h2=>F.dlz h1 h2) (fun i hi=> ?_) a ha
 ·show gm m q (gm m q (x^^^y) b) c=_;rw [F.dlz h1 h2,F.dlz (F.lt h1) (F.lt h2)]
 ·show gm m q (gm m q (2^i) b) c=gm m q (2^i) (gm m q b c);rw [F.pow_left hi hb,F.xtn_left i hb,F.pow_left hi (F.lt hb)]
theorem eIz {a:Nat} (ha:a<2^(m+1)):gm m q a 1=a:=by rw [F.comm ha (Nat.one_lt_two_pow (by omega)),F.dnz ha]
end Gf
def gp (m q a:Nat):Nat->Nat
 |0=>1
 |n+1=>gm m q (gp m q a n) a
def sqn (m q:Nat):Nat->Nat->Nat
 |0,a=>a
 |i+1,a=>sqn m q i (gm m q a a)
def lmap:List Nat->Nat->Nat
 | [],_=>0
 |c::cs,y=>(if y % 2=1 then c else 0)^^^lmap cs (y / 2)
theorem lmap_xor: ∀(l:List Nat) (b c:Nat),lmap l (b^^^c)=lmap l b^^^lmap l c
 | [],_,_=>by simp [lmap]
 |a::l,b,c=>by
  have hd:(b^^^c) / 2=(b / 2)^^^(c / 2):=by
   apply Nat.eq_of_testBit_eq;intro i;simp [Nat.testBit_div_two,Nat.testBit_xor]
  have hm:((b^^^c) % 2=1)↔(¬((b % 2=1)↔(c % 2=1))):=by
   have e: ∀x:Nat,(x % 2=1)↔(x.testBit 0=true):=fun x=>by simp
   rw [e,e,e,Nat.testBit_xor];cases b.testBit 0<;>cases c.testBit 0<;>simp
  unfold lmap;rw [hd,lmap_xor l];simp only [hm];by_cases h1:b % 2=1<;>by_cases h2:c % 2=1<;>simp only [h1,h2,if_true,if_false,iff_true,iff_false,not_true,not_false_iff,Nat.zero_xor]
  ·rw [Nat.xor_assoc, <-Nat.xor_assoc _ a,Nat.xor_comm _ a,Nat.xor_assoc a, <-Nat.xor_assoc a a,Nat.xor_self,Nat.zero_xor]
  ·rw [Nat.xor_assoc]
  ·rw [<-Nat.xor_assoc, <-Nat.xor_assoc,Nat.xor_comm a]
structure GfInv (m q:Nat) (l:List Nat):Prop extends Gf m q where
 frob: ∀i,i<m+1->sqn m q (m+1) (2^i)=2^i
 idem: ∀i,i<m+1->lmap l (gm m q (2^i) (2^i)^^^2^i)=2*((2^i) / 2)
namespace Gf
variable {m q : Nat} (F : Gf m q)
include F
theorem gp_lt {a:Nat} (ha:a<2^(m+1)): ∀n,gp m q a n<2^(m+1)
 |0=>Nat.one_lt_two_pow (by omega)
 |n+1=>F.lt (gp_lt ha n)
theorem gp_one {a:Nat} (ha:a<2^(m+1)):gp m q a 1=a:=F.dnz ha
theorem gp_sq {a:Nat} (ha:a<2^(m+1)): ∀n,gp m q (gm m q a a) n=gp m q a (2*n)
 |0=>rfl
 |n+1=>by
  show gm m q (gp m q (gm m q a a) n) (gm m q a a)=gp m q a (2*n+1+1);rw [gp_sq ha n];show _=gm m q (gm m q (gp m q a (2*n)) a) a;rw [F.assoc (F.gp_lt ha _) ha]
theorem sqn_gp: ∀(i:Nat) {a:Nat},a<2^(m+1)->sqn m q i a=gp m q a (2^i)
 |0,a,ha=>(F.gp_one ha).symm
 |i+1,a,ha=>by
  unfold sqn;rw [sqn_gp i (F.lt ha),F.gp_sq ha,Nat.pow_succ,Nat.mul_comm]
theorem sq_xor {a b:Nat} (ha:a<2^(m+1)) (hb:b<2^(m+1)):gm m q (a^^^b) (a^^^b)=gm m q a a^^^gm m q b b:=by
 rw [F.dlz ha hb,c7z,c7z,F.comm hb ha];rw [Nat.xor_assoc, <-Nat.xor_assoc (gm m q a b),Nat.xor_self,Nat.zero_xor]
theorem sqn_xor: ∀(i:Nat) {a b:Nat},a<2^(m+1)->b<2^(m+1)->sqn m q i (a^^^b)=sqn m q i a^^^sqn m q i b
 |0,_,_,_,_=>rfl
 |i+1,a,b,ha,hb=>by
  unfold sqn;rw [F.sq_xor ha hb,sqn_xor i (F.lt ha) (F.lt hb)]
end Gf
namespace GfInv
variable {m q : Nat} {l : List Nat} (F : GfInv m q l)
include F
theorem frob_all {a:Nat} (ha:a<2^(m+1)):gp m q a (2^(m+1))=a:=by
 rw [<-F.toGf.sqn_gp _ ha];exact dRz (f:=fun a=>sqn m q (m+1) a) (g:=fun a=>a) (m+1) (fun _ _ h1 h2=>F.toGf.sqn_xor _ h1 h2) (fun _ _ _ _=>rfl) F.frob a ha
theorem idem_all {b:Nat} (hb:b<2^(m+1)) (h:gm m q b b=b):b<2:=by
 have h1:=dRz (f:=fun b=>lmap l (gm m q b b^^^b)) (g:=fun b=>2*(b / 2)) (m+1) (fun x y h1 h2=>by
  show lmap l (gm m q (x^^^y) (x^^^y)^^^(x^^^y))=_;rw [F.toGf.sq_xor h1 h2, <-lmap_xor];congr 1
  rw [Nat.xor_assoc,Nat.xor_assoc, <-Nat.xor_assoc (gm m q y y) x,Nat.xor_comm (gm m q y y) x,Nat.xor_assoc x]) (fun x y _ _=>by
   show 2*((x^^^y) / 2)=_;rw [<-two_mul_xor];congr 1
   apply Nat.eq_of_testBit_eq;intro i;simp [Nat.testBit_div_two,Nat.testBit_xor]) F.idem b hb
 simp only [h,Nat.xor_self] at h1
 have h0:lmap l 0=0:=by
  have:=lmap_xor l 0 0
  simpa using this
 omega
theorem inv_left {a:Nat} (ha:a<2^(m+1)) (h0:a≠0):gm m q a (gp m q a (2^(m+1) - 2))=1:=by
 have hp:2^(m+1)=2^(m+1) - 2+1+1:=by
  have:2<=2^(m+1):=by rw [Nat.pow_succ];have:=Nat.pow_pos (n:=m) (show 0<2 by omega);omega
  omega
 have hf:=F.frob_all ha;rw [hp] at hf
 generalize hk:2^(m+1) - 2=k at *
 have h1:gm m q a (gp m q a k)=gp m q a (k+1):=by rw [F.toGf.comm ha (F.toGf.gp_lt ha _)];rfl
 rw [h1];have hb:=F.toGf.gp_lt ha (k+1);have hab:gm m q (gp m q a (k+1)) a=a:=hf
 have hbb:gm m q (gp m q a (k+1)) (gp m q a (k+1))=gp m q a (k+1):=by
  show gm m q (gp m q a (k+1)) (gm m q (gp m q a k) a)=gm m q (gp m q a k) a;rw [F.toGf.comm (F.toGf.gp_lt ha k) ha, <-F.toGf.assoc hb ha,hab]
 have h2:=F.idem_all hb hbb
 generalize gp m q a (k+1)=b at *
 match b,h2 with
 |0,_=>rw [Gf.dmz] at hab;exact absurd hab.symm h0
 |1,_=>rfl
end GfInv
theorem gf8:GfInv 7 285 [214,232,234,44,238,0,36,80] :=⟨⟨by decide,by decide,by decide+kernel,by decide+kernel⟩,by decide+kernel,by decide+kernel⟩
theorem gf16:GfInv 15 69643 [350,42420,42422,7412,42418,10272,7420,1328,42402,38610,10240,5068,7356,0,1456,21936] :=⟨⟨by decide,by decide,by decide+kernel,by decide+kernel⟩,by decide+kernel,by decide+kernel⟩
end Go.Proofs.Xc
end
section
namespace Go.Proofs.Xc
theorem bits_Len64_told (x:Int) (w:World) (h0:0<=x) (h1:x<=18446744073709551615):
    Calls Tryz.prog 162 #[.int .u64 x] w fun e w'=>e= .returned (.int .i64 (Lib.bitLen x.toNat))/\w'=w:=by
  go_enter Tryz.func162,Tryz.ntmps162;go_wp2
  all_goals (go_ret;refine ⟨congrArg Ending.returned (congrArg (Value.int IntKind.i64) ?_),rfl⟩)
  all_goals first
    | (rw [Lib.len8_of (x / 4294967296 / 65536 / 256 % 256) (by omega) (by omega)]
       have e:(x / 4294967296 / 65536 / 256 % 256).toNat=x.toNat / 72057594037927936:=by omega
       have l:=Lib.bitLen_le8' (x / 4294967296 / 65536 / 256 % 256) (by omega) (by omega);have s:=Lib.bitLen_shift56 x.toNat (by omega) (by omega);rw [e] at l|-
       omega)
    | (rw [Lib.len8_of (x / 4294967296 / 65536 % 256) (by omega) (by omega)]
       have e:(x / 4294967296 / 65536 % 256).toNat=x.toNat / 281474976710656:=by omega
       have l:=Lib.bitLen_le8' (x / 4294967296 / 65536 % 256) (by omega) (by omega);have s:=Lib.bitLen_shift48 x.toNat (by omega) (by omega);rw [e] at l|-
       omega)
    | (rw [Lib.len8_of (x / 4294967296 / 256 % 256) (by omega) (by omega)]
       have e:(x / 4294967296 / 256 % 256).toNat=x.toNat / 1099511627776:=by omega
       have l:=Lib.bitLen_le8' (x / 4294967296 / 256 % 256) (by omega) (by omega);have s:=Lib.bitLen_shift40 x.toNat (by omega) (by omega);rw [e] at l|-
       omega)
    | (rw [Lib.len8_of (x / 4294967296 % 256) (by omega) (by omega)]
       have e:(x / 4294967296 % 256).toNat=x.toNat / 4294967296:=by omega
       have l:=Lib.bitLen_le8' (x / 4294967296 % 256) (by omega) (by omega);have s:=Lib.bitLen_shift32 x.toNat (by omega) (by omega);rw [e] at l|-
       omega)
    | (rw [Lib.len8_of (x / 65536 / 256 % 256) (by omega) (by omega)]
       have e:(x / 65536 / 256 % 256).toNat=x.toNat / 16777216:=by omega
       have l:=Lib.bitLen_le8' (x / 65536 / 256 % 256) (by omega) (by omega);have s:=Lib.bitLen_shift24 x.toNat (by omega) (by omega);rw [e] at l|-
       omega)
    | (rw [Lib.len8_of (x / 65536 % 256) (by omega) (by omega)]
       have e:(x / 65536 % 256).toNat=x.toNat / 65536:=by omega
       have l:=Lib.bitLen_le8' (x / 65536 % 256) (by omega) (by omega);have s:=Lib.bitLen_shift16 x.toNat (by omega) (by omega);rw [e] at l|-
       omega)
    | (rw [Lib.len8_of (x / 256 % 256) (by omega) (by omega)]
       have e:(x / 256 % 256).toNat=x.toNat / 256:=by omega
       have l:=Lib.bitLen_le8' (x / 256 % 256) (by omega) (by omega);have s:=Lib.bitLen_shift8 x.toNat (by omega) (by omega);rw [e] at l|-
       omega)
    | (rw [Lib.len8_of (x % 256) (by omega) (by omega)]
       have e:(x % 256).toNat=x.toNat:=by omega
       have l:=Lib.bitLen_le8' (x % 256) (by omega) (by omega);rw [e] at l|-
       omega)
theorem bits_Len32_told (x:Int) (w:World) (h0:0<=x) (h1:x<=4294967295):
    Calls Tryz.prog 191 #[.int .u32 x] w fun e w'=>e= .returned (.int .i64 (Lib.bitLen x.toNat))/\w'=w:=by
  go_enter Tryz.func191,Tryz.ntmps191;go_wp2
  all_goals (go_ret;refine ⟨congrArg Ending.returned (congrArg (Value.int IntKind.i64) ?_),rfl⟩)
  all_goals first
    | (rw [Lib.len8_of (x / 65536 / 256 % 256) (by omega) (by omega)]
       have e:(x / 65536 / 256 % 256).toNat=x.toNat / 16777216:=by omega
       have l:=Lib.bitLen_le8' (x / 65536 / 256 % 256) (by omega) (by omega);have s:=Lib.bitLen_shift24 x.toNat (by omega) (by omega);rw [e] at l|-
       omega)
    | (rw [Lib.len8_of (x / 65536 % 256) (by omega) (by omega)]
       have e:(x / 65536 % 256).toNat=x.toNat / 65536:=by omega
       have l:=Lib.bitLen_le8' (x / 65536 % 256) (by omega) (by omega);have s:=Lib.bitLen_shift16 x.toNat (by omega) (by omega);rw [e] at l|-
       omega)
    | (rw [Lib.len8_of (x / 256 % 256) (by omega) (by omega)]
       have e:(x / 256 % 256).toNat=x.toNat / 256:=by omega
       have l:=Lib.bitLen_le8' (x / 256 % 256) (by omega) (by omega);have s:=Lib.bitLen_shift8 x.toNat (by omega) (by omega);rw [e] at l|-
       omega)
    | (rw [Lib.len8_of (x % 256) (by omega) (by omega)]
       have e:(x % 256).toNat=x.toNat:=by omega
       have l:=Lib.bitLen_le8' (x % 256) (by omega) (by omega);rw [e] at l|-
       omega)
end Go.Proofs.Xc
end
