-- Joined texts of this work (wip/tools/bundle.py).
import Derived.WalkSpells
import Derived.Outline
import Derived.Deep.DeepMust
import Derived.RangeFuncNested
import Derived.RangeFuncBound
import Derived.RangeFuncCalls
import Derived.RangeFuncLeaves
import Derived.Shelf.Abstract
import Derived.Shelf.RegionOpen
import Derived.OwnWalkIn
import Derived.TacticsInMore
import Derived.LoopNIn
import Derived.LoopIn
import Derived.WalkMore
import Derived.Test.YtpdakdcmahlghaaGreatBReconWhich6
set_option maxHeartbeats 4000000
set_option maxRecDepth 100000
set_option linter.unusedVariables false
set_option linter.unusedSimpArgs false
section
namespace Go.Proofs.Xc
open Go.RowKit Go.Proofs.Pw Go.Proofs.Pl Go.Proofs.Pm Tryz
attribute [local go_sem] a7z a8z bgz bhz aVz aWz a9z baz
def idxF {α:Type} (p:α->Bool):List α->Int
 | [] => -1
 |x::l=>if p x then 0 else if idxF p l<0 then -1 else idxF p l+1
theorem dXz {α:Type} (p:α->Bool): ∀l:List α, -1<=idxF p l/\idxF p l<l.length/\(idxF p l<0↔l.any p=false)
 | [] =>by simp [idxF]
 |x::l=>by
  have h:=dXz p l;unfold idxF
  cases hx:p x with
  |true=>simp [hx]
  |false=>
   simp only [Bool.false_eq_true,if_false,List.any_cons,hx,Bool.false_or,List.length_cons];refine ⟨?_,?_,?_⟩
   ·split<;>omega
   ·split<;>omega
   ·rw [<-h.2.2];split<;>omega
theorem idxF_any {α : Type} (p : α -> Bool) (l : List α) : decide (0 <= idxF p l) = l.any p := by
  have h:=dXz p l
  cases ha:l.any p with
  | true => have : ¬ idxF p l < 0 := fun hh => by rw [h.2.2.1 hh] at ha; cases ha
            exact Zd (by omega)
  |false=>exact Ze (by have:=h.2.2.2 ha;omega)
theorem idxF_at {α:Type} (p:α->Bool): ∀(l:List α) (k:Nat) (x:α),l[k]?=some x->(l.take k).any p=false->p x=true->idxF p l=k
 | [],k,x,h,_,_=>by simp at h
 |y::l,0,x,h,_,hp=>by
  obtain rfl:y=x:=by simpa using h
  simp [idxF,hp]
 |y::l,k+1,x,h,ha,hp=>by
  simp only [List.take_succ_cons,List.any_cons,Bool.or_eq_false_iff] at ha;have:=idxF_at p l k x (by simpa using h) ha.2 hp;unfold idxF;rw [ha.1,this];simp only [Bool.false_eq_true,if_false];rw [Yb (by omega)];omega
theorem idxF_none {α:Type} (p:α->Bool) (l:List α) (h:l.any p=false):idxF p l= -1:=by
 have h1:=dXz p l;have:=h1.2.2.2 h;omega
theorem enz {α:Type} (p:α->Bool) (l:List α) (k:Nat) (x:α) (h:l[k]?=some x):(l.take (k+1)).any p=((l.take k).any p||p x):=by
 rw [List.take_add_one,h];simp
theorem cjz {α:Type} {d:Kd α} {e:Nat} {W:World} {A:Option Addr} {rows:List (List α)} (h:Kd.C (Kd.slice e d) W A rows.length rows) (k:Nat) (x:List α) (hx:rows[k]?=some x):
  ∃ad A' c',A=some ad/\W.cell? (ad.add k)=some (.slice A' x.length c')/\x.length<=c'/\Kd.C d W A' x.length x:=by
 have hlt:=(Zk hx).1;obtain ⟨ad,c,hA,hl,hK,hc⟩:=Kd.C_get h ([] :List α) (k:Int) (by omega) (by omega);rw [Zu,Zm,hx] at hK;obtain ⟨A',c',rfl,hle,hC⟩:=hK;refine ⟨ad,A',c',hA,?_,hle,hC⟩;have:=hc 0 _ rfl;rwa [show (k:Int).toNat*(Kd.slice e d).sz+0=k from by show (k:Int).toNat*1+0=k;omega] at this
theorem cKz {k:IntKind} {W:World} {A:Option Addr} {l:List Int} (h:Kd.C (Kd.int k) W A l.length l) (j:Nat) (x:Int) (hx:l[j]?=some x): ∃ad,A=some ad/\W.cell? (ad.add j)=some (.int k x):=by
 have hlt:=(Zk hx).1;obtain ⟨ad,c,hA,hl,hK,hc⟩:=Kd.C_get h 0 (j:Int) (by omega) (by omega);rw [Zu,Zm,hx] at hK;refine ⟨ad,hA,?_⟩;have hK':c= [.int k x] :=hK;subst hK';have:=hc 0 _ rfl;rwa [show (j:Int).toNat*(Kd.int k).sz+0=j from by show (j:Int).toNat*1+0=j;omega] at this
theorem idx_May11.calls (p : Int -> Bool) (q0 : Value) (A : Option Addr) (c : Nat) (l : List Int) (W : World) (hr : Kd.C (Kd.int .i64) W A l.length l) (hl : l.length <= 1000000)
  (hp: ∀(m:Nat) (x:Int),x∈l->Calls prog 173 #[.int .i64 x,q0] (W.drewN m) fun e w'=>e= .returned (.bool (p x))/\Drawn0 (W.drewN m) w'):
  Calls prog 189 #[.slice A l.length c, .func (.func 173) #[] #[q0]] W fun e w'=>e= .returned (.int .i64 (idxF p l))/\Drawn0 W w':=by
 have HR:=Za hr;have HP:=Za hp;clear hr hp;go_enter func189,ntmps189;go_wp2
 go_loopw [8] (fun i wr=> ∃k m:Nat,k<=l.length/\i= .int .i64 k/\wr=W.drewN m/\Aside0 ((l.take k).any p=false)) (fun i _=>l.length - (intOf i).toNat)
 case atStart=>exact ⟨0,0,Nat.zero_le _,rfl,rfl,⟨rfl⟩⟩
 obtain ⟨k,m,hk,rfl,rfl,HA⟩:=hrel;by_cases hlt:k<l.length
 ·obtain ⟨x,hx⟩: ∃x,l[k]?=some x:=⟨_,Zf hlt⟩;obtain ⟨ad,rfl,hcell⟩:=cKz HR.o k x hx;have HX:=Za hx;clear hx
  cases hpx:p x with
  |true=>
   have HI:=Za (idxF_at p l k x HX.o HA.o hpx);have a0:=Za hpx;clear hpx
   go_wp2_with (first|(go_at_call 173;refine (HP.o _ x (Zo HX.o)).mono ?_;rintro e w9 ⟨rfl,m9,rfl⟩;rw [a0.o]))
   go_ret;refine ⟨?_,dn_⟩;rw [HI.o];rfl
  |false=>
   have b0:=Za (show (l.take (k+1)).any p=false by rw [enz p l k x HX.o,HA.o,hpx];rfl);have a0:=Za hpx;clear hpx
   go_wp2_with (first|(go_at_call 173;refine (HP.o _ x (Zo HX.o)).mono ?_;rintro e w9 ⟨rfl,m9,rfl⟩;rw [a0.o]))
   go_roundw
   case rel=>exact ⟨k+1,m+m9,by omega,by go_num,by simp [World.drewN_drewN],b0⟩
   case measure=>simp [intOf];omega
 ·obtain rfl:k=l.length:=by omega
  have HI:=Za (idxF_none p l (by have:=HA.o;rwa [List.take_length] at this));go_wp2;go_ret;refine ⟨?_,dn_⟩;rw [HI.o];rfl
theorem con_May11.calls (p : Int -> Bool) (q0 : Value) (A : Option Addr) (c : Nat) (l : List Int) (W : World) (hr : Kd.C (Kd.int .i64) W A l.length l) (hl : l.length <= 1000000)
  (hp: ∀(m:Nat) (x:Int),x∈l->Calls prog 173 #[.int .i64 x,q0] (W.drewN m) fun e w'=>e= .returned (.bool (p x))/\Drawn0 (W.drewN m) w'):
  Calls prog 172 #[.slice A l.length c, .func (.func 173) #[] #[q0]] W fun e w'=>e= .returned (.bool (l.any p))/\Drawn0 W w':=by
 have HC:=Za (idx_May11.calls p q0 A c l W hr hl hp);have HA:=Za (idxF_any p l);clear hr hp;obtain ⟨z,hz⟩: ∃z,idxF p l=z:=⟨_,rfl⟩;rw [hz] at HC HA;rw [<-HA.o];clear hz HA;go_enter func172,ntmps172
 go_wp2_with (first|(go_at_call 189;refine HC.o.mono ?_;rintro e w9 ⟨rfl,m9,rfl⟩))
 go_ret;exact ⟨rfl,dn_⟩
theorem idx_May1.calls (p : List Int -> Bool) (q0 q1 : Value) (A : Option Addr) (c : Nat) (l : List (List Int)) (W : World) (hr : Kd.C (Kd.slice 3 (Kd.int .i64)) W A l.length l) (hl : l.length <= 1000000)
  (hp: ∀(m:Nat) (x:List Int) (A':Option Addr) (c':Nat),x∈l->x.length<=c'->Kd.C (Kd.int .i64) W A' x.length x->Calls prog 171 #[.slice A' x.length c',q0,q1] (W.drewN m) fun e w'=>e= .returned (.bool (p x))/\Drawn0 (W.drewN m) w'):
  Calls prog 175 #[.slice A l.length c, .func (.func 171) #[] #[q0,q1]] W fun e w'=>e= .returned (.int .i64 (idxF p l))/\Drawn0 W w':=by
 have HR:=Za hr;have HP:=Za hp;clear hr hp;go_enter func175,ntmps175;go_wp2
 go_loopw [8] (fun i wr=> ∃k m:Nat,k<=l.length/\i= .int .i64 k/\wr=W.drewN m/\Aside0 ((l.take k).any p=false)) (fun i _=>l.length - (intOf i).toNat)
 case atStart=>exact ⟨0,0,Nat.zero_le _,rfl,rfl,⟨rfl⟩⟩
 obtain ⟨k,m,hk,rfl,rfl,HA⟩:=hrel;by_cases hlt:k<l.length
 ·obtain ⟨x,hx⟩: ∃x,l[k]?=some x:=⟨_,Zf hlt⟩;obtain ⟨ad,A',c',rfl,hcell,hle,hC⟩:=cjz HR.o k x hx;have HC:=Za hC;have b0:=Za hle;clear hC hle;have HX:=Za hx;clear hx
  cases hpx:p x with
  |true=>
   have HI:=Za (idxF_at p l k x HX.o HA.o hpx);have a0:=Za hpx;clear hpx
   go_wp2_with (first|(go_at_call 171;refine (HP.o _ x A' c' (Zo HX.o) b0.o HC.o).mono ?_;rintro e w9 ⟨rfl,m9,rfl⟩;rw [a0.o]))
   go_ret;refine ⟨?_,dn_⟩;rw [HI.o];rfl
  |false=>
   have c0:=Za (show (l.take (k+1)).any p=false by rw [enz p l k x HX.o,HA.o,hpx];rfl);have a0:=Za hpx;clear hpx
   go_wp2_with (first|(go_at_call 171;refine (HP.o _ x A' c' (Zo HX.o) b0.o HC.o).mono ?_;rintro e w9 ⟨rfl,m9,rfl⟩;rw [a0.o]))
   go_roundw
   case rel=>exact ⟨k+1,m+m9,by omega,by go_num,by simp [World.drewN_drewN],c0⟩
   case measure=>simp [intOf];omega
 ·obtain rfl:k=l.length:=by omega
  have HI:=Za (idxF_none p l (by have:=HA.o;rwa [List.take_length] at this));go_wp2;go_ret;refine ⟨?_,dn_⟩;rw [HI.o];rfl
theorem con_May1.calls (p : List Int -> Bool) (q0 q1 : Value) (A : Option Addr) (c : Nat) (l : List (List Int)) (W : World) (hr : Kd.C (Kd.slice 3 (Kd.int .i64)) W A l.length l) (hl : l.length <= 1000000)
  (hp: ∀(m:Nat) (x:List Int) (A':Option Addr) (c':Nat),x∈l->x.length<=c'->Kd.C (Kd.int .i64) W A' x.length x->Calls prog 171 #[.slice A' x.length c',q0,q1] (W.drewN m) fun e w'=>e= .returned (.bool (p x))/\Drawn0 (W.drewN m) w'):
  Calls prog 170 #[.slice A l.length c, .func (.func 171) #[] #[q0,q1]] W fun e w'=>e= .returned (.bool (l.any p))/\Drawn0 W w':=by
 have HC:=Za (idx_May1.calls p q0 q1 A c l W hr hl hp);have HA:=Za (idxF_any p l);clear hr hp;obtain ⟨z,hz⟩: ∃z,idxF p l=z:=⟨_,rfl⟩;rw [hz] at HC HA;rw [<-HA.o];clear hz HA;go_enter func170,ntmps170
 go_wp2_with (first|(go_at_call 175;refine HC.o.mono ?_;rintro e w9 ⟨rfl,m9,rfl⟩))
 go_ret;exact ⟨rfl,dn_⟩
theorem idx_reduce2.calls (p : List Int -> Bool) (q0 : Value) (A : Option Addr) (c : Nat) (l : List (List Int)) (W : World) (hr : Kd.C (Kd.slice 3 (Kd.int .i64)) W A l.length l) (hl : l.length <= 1000000)
  (hp: ∀(m:Nat) (x:List Int) (A':Option Addr) (c':Nat),x∈l->x.length<=c'->Kd.C (Kd.int .i64) W A' x.length x->Calls prog 176 #[.slice A' x.length c',q0] (W.drewN m) fun e w'=>e= .returned (.bool (p x))/\Drawn0 (W.drewN m) w'):
  Calls prog 175 #[.slice A l.length c, .func (.func 176) #[] #[q0]] W fun e w'=>e= .returned (.int .i64 (idxF p l))/\Drawn0 W w':=by
 have HR:=Za hr;have HP:=Za hp;clear hr hp;go_enter func175,ntmps175;go_wp2
 go_loopw [8] (fun i wr=> ∃k m:Nat,k<=l.length/\i= .int .i64 k/\wr=W.drewN m/\Aside0 ((l.take k).any p=false)) (fun i _=>l.length - (intOf i).toNat)
 case atStart=>exact ⟨0,0,Nat.zero_le _,rfl,rfl,⟨rfl⟩⟩
 obtain ⟨k,m,hk,rfl,rfl,HA⟩:=hrel;by_cases hlt:k<l.length
 ·obtain ⟨x,hx⟩: ∃x,l[k]?=some x:=⟨_,Zf hlt⟩;obtain ⟨ad,A',c',rfl,hcell,hle,hC⟩:=cjz HR.o k x hx;have HC:=Za hC;have b0:=Za hle;clear hC hle;have HX:=Za hx;clear hx
  cases hpx:p x with
  |true=>
   have HI:=Za (idxF_at p l k x HX.o HA.o hpx);have a0:=Za hpx;clear hpx
   go_wp2_with (first|(go_at_call 176;refine (HP.o _ x A' c' (Zo HX.o) b0.o HC.o).mono ?_;rintro e w9 ⟨rfl,m9,rfl⟩;rw [a0.o]))
   go_ret;refine ⟨?_,dn_⟩;rw [HI.o];rfl
  |false=>
   have c0:=Za (show (l.take (k+1)).any p=false by rw [enz p l k x HX.o,HA.o,hpx];rfl);have a0:=Za hpx;clear hpx
   go_wp2_with (first|(go_at_call 176;refine (HP.o _ x A' c' (Zo HX.o) b0.o HC.o).mono ?_;rintro e w9 ⟨rfl,m9,rfl⟩;rw [a0.o]))
   go_roundw
   case rel=>exact ⟨k+1,m+m9,by omega,by go_num,by simp [World.drewN_drewN],c0⟩
   case measure=>simp [intOf];omega
 ·obtain rfl:k=l.length:=by omega
  have HI:=Za (idxF_none p l (by have:=HA.o;rwa [List.take_length] at this));go_wp2;go_ret;refine ⟨?_,dn_⟩;rw [HI.o];rfl
theorem cRz (ad:Addr):ad.add 0=ad:=by unfold Addr.add;split<;>simp_all
structure MayOk (wb:Int) (rows:List (List Int)) (cols:Nat):Prop where
 n1:1<=rows.length
 n2:rows.length<=20
 c1:1<=cols
 c2:cols<=20
 each: ∀row,row∈rows->row.length=cols/\ ∀x,x∈row->0<=x/\x<fsize wb
theorem may11.calls (g fb:Nat) (S:Nat->Prop) (wb p x:Int) (W:World) (hw:wb=8\/wb=16) (hF:Fd W g wb p S) (hb:W.cell? ⟨fb,0,none⟩=some (.pointer (some ⟨g,0,none⟩))) (hx:0<=x/\x<fsize wb):
  Calls prog 173 #[.int .i64 x, .pointer (some ⟨fb,0,none⟩)] W fun e w'=>e= .returned (.bool false)/\Drawn0 W w':=by
 have HF:=Za hF;have HW:=Za hw;have h1:decide (x<0)=false:=Ze (by omega);have h2:decide (fsize wb<=x)=false:=Ze (by omega);clear hF hw hx;go_enter func173,ntmps173
 go_wp2_with (first|(go_at_call 150;refine (euz.calls g wb p S _ HF.o HW.o).mono ?_;rintro e w9 ⟨rfl,m9,rfl⟩))
 go_ret;exact ⟨rfl,dn_⟩
theorem may1.calls (g fb ab : Nat) (S : Nat -> Prop) (wb p : Int) (A A0 A' : Option Addr) (n0 c0 c' cols:Nat) (rows : List (List Int)) (x : List Int) (W : World) (hw : wb = 8 \/ wb = 16) (hM : MayOk wb rows cols) (hF : Fd W g wb p S) (hb : W.cell? ⟨fb, 0, none⟩ = some (.pointer (some ⟨g, 0, none⟩)))
  (ha:W.cell? ⟨ab,0,none⟩=some (.slice A rows.length c0)) (hC:Kd.C (Kd.slice 3 (Kd.int .i64)) W A rows.length rows) (hx:x∈rows) (hX:Kd.C (Kd.int .i64) W A' x.length x):
  Calls prog 171 #[.slice A' x.length c', .pointer (some ⟨ab,0,none⟩), .pointer (some ⟨fb,0,none⟩)] W fun e w'=>e= .returned (.bool false)/\Drawn0 W w':=by
 obtain ⟨r0,a0⟩: ∃r,rows[0]?=some r:=⟨_,Zf (by have:=hM.n1;omega)⟩;obtain ⟨ad,A1,c1,rfl,hcell,hle,d0⟩:=cjz hC 0 r0 a0;have l0:=(hM.each r0 (Zo a0)).1;have lx:=(hM.each x hx).1;have b0:=hM.c2;have HC:=Za (con_May11.calls (fun _=>false) (.pointer (some ⟨fb,0,none⟩)) A' c' x W hX (by omega) (fun m y hy=>may11.calls g fb S wb p y _ hw (hF.drewN m) hb ((hM.each x hx).2 y hy)));have hany:x.any (fun _=>false)=false:=by simp
 rw [hany] at HC;rw [l0] at hcell;rw [lx] at HC;rw [lx];have n1:(0:Int)<(rows.length:Int):=by have:=hM.n1;omega
 have hcell':W.cell? ad=some (.slice A1 cols c1):=by rwa [cRz] at hcell
 have hself:((cols:Int) !=(cols:Int))=false:=by simp
 have e0: ∀(fn:Fn) (first cap:Array Value) (w:World),(Instr.makeFunc fn first cap).run prog w= .ok (.func fn first cap) w:=fun _ _ _ _=>rfl
 generalize rows.length=nr at ha n1;clear hM hF hC hx hX a0 d0 l0 lx b0 hany hle hcell;go_enter func171,ntmps171
 go_wp2_with (first|(go_at_call 172;refine HC.o.mono ?_;rintro e w9 ⟨rfl,m9,rfl⟩))
 go_ret;exact ⟨rfl,dn_⟩
theorem dBz.ok (g:Nat) (S:Nat->Prop) (wb p:Int) (A:Option Addr) (c cols:Nat) (rows:List (List Int)) (W:World) (hw:wb=8\/wb=16) (hM:MayOk wb rows cols) (hF:Fd W g wb p S) (hC:Kd.C (Kd.slice 3 (Kd.int .i64)) W A rows.length rows):
  Calls prog 138 #[.pointer (some ⟨g,0,none⟩), .slice A rows.length c] W fun e w'=>e= .returned (.bool true)/\Below W.heap.size W w':=by
 have a0:Below W.heap.size W ((W.alloc (.cells #[.pointer (some ⟨g,0,none⟩)] 72)).alloc (.cells #[.slice A rows.length c] 69)):=aoz (aoz (Zw _ _) _) _;have g0:=hF.below a0;have c0:=Kd.aMz hC a0;have i0:((W.alloc (.cells #[.pointer (some ⟨g,0,none⟩)] 72)).alloc (.cells #[.slice A rows.length c] 69)).cell? ⟨W.heap.size,0,none⟩=some (.pointer (some ⟨g,0,none⟩)):=(abz (aPz (cEz W _) _) 0).trans rfl;have j0:((W.alloc (.cells #[.pointer (some ⟨g,0,none⟩)] 72)).alloc (.cells #[.slice A rows.length c] 69)).cell? ⟨W.heap.size+1,0,none⟩=some (.slice A rows.length c):=(abz (bBz _ _ _ (by simp)) 0).trans rfl;have hany:rows.any (fun _=>false)=false:=by simp
 have HC:=Za (fun (m0:Nat)=>con_May1.calls (fun _=>false) (.pointer (some ⟨W.heap.size+1,0,none⟩)) (.pointer (some ⟨W.heap.size,0,none⟩)) A c rows _ (Kd.bEz c0 m0) (by have:=hM.n2;omega) (fun m x A' c' hx n0 hX=>may1.calls g W.heap.size (W.heap.size+1) S wb p A A A' rows.length c c' cols rows x _ hw hM ((g0.drewN m0).drewN m) i0 j0 (Kd.bEz (Kd.bEz c0 m0) m) hx (Kd.bEz hX m)));rw [hany] at HC;obtain ⟨r0,b0⟩: ∃r,rows[0]?=some r:=⟨_,Zf (by have:=hM.n1;omega)⟩;obtain ⟨ad,A1,c1,rfl,hcell,hle,h0⟩:=cjz hC 0 r0 b0;have l0:=(hM.each r0 (Zo b0)).1;rw [l0] at hcell;have hcell':W.cell? ad=some (.slice A1 cols c1):=by rwa [cRz] at hcell
 have d0:=a3z a0 hcell';have e0:bzz.f (rows.length:Int)=some true:=by unfold bzz.f;rw [Ya (by have:=hM.n1;omega),Zd (by have:=hM.n2;omega)]
 have f0:bzz.f (cols:Int)=some true:=by unfold bzz.f;rw [Ya (by have:=hM.c1;omega),Zd (by have:=hM.c2;omega)]
 have n1:(0:Int)<(rows.length:Int):=by have:=hM.n1;omega
 have k0: ∀(fn:Fn) (first cap:Array Value) (w:World),(Instr.makeFunc fn first cap).run prog w= .ok (.func fn first cap) w:=fun _ _ _ _=>rfl
 have HB:=Za a0;have H1:=Za e0;have H2:=Za f0
 generalize rows.length=nr at *
 clear hM hF hC g0 c0 b0 h0 l0 hany hle hcell hcell' e0 f0 a0;go_enter func138,ntmps138
 go_wp2_with (first|(go_at_call_of 139 (Value.int .i64 (nr:Int));refine (bzz.calls _ _ _ H1.o).mono ?_;rintro e w9 ⟨rfl,m9,rfl⟩)|(go_at_call 139;refine (bzz.calls _ _ _ H2.o).mono ?_;rintro e w9 ⟨rfl,m8,rfl⟩)|(go_at_call 170;refine (HC.o _).mono ?_;rintro e w9 ⟨rfl,m7,rfl⟩))
 go_ret;exact ⟨rfl,by repeat (first|exact HB.o|apply a2z)⟩
theorem reads_C {k:IntKind} {W:World} {A:Option Addr} {l:List Int} (h:Kd.C (Kd.int k) W A l.length l):bOz W k A l.length l:=by
 refine ⟨rfl,h.2.1,fun hn=> ?_⟩;obtain ⟨ad,hA,_⟩:=h.2.2 hn;refine ⟨ad,hA,fun j hj=> ?_⟩;obtain ⟨ad',hA',hc⟩:=cKz h j l[j] (Zf hj);rw [hA] at hA';cases hA'
 rw [hc,Zm,Zf hj];rfl
theorem dCz {k:IntKind} {e:Nat} {W:World} {base:Nat} {v:Value} {xs:List Int} (h:W.ownsRow base e 1 v xs.length (nums k xs)):Kd.R (Kd.int k) e W base (fun _=>True) v xs:=
 ⟨fun _ _=>trivial,nums k xs,h,by rw [nums_length];exact (Nat.mul_one _).symm,fun j p hj=>by
  obtain ⟨hlt,rfl⟩:=Zk hj;show ((nums k xs).drop (j*1)).take 1= [Value.int k xs[j]];rw [Nat.mul_one,List.drop_eq_getElem_cons (by simp [nums];exact hlt)]
  simp [nums]⟩
theorem A_none {α:Type} {d:Kd α} {W:World} {n:Nat} {xs:List α} (h:Kd.C d W none n xs):n=0:=by
 rcases Nat.eq_zero_or_pos n with h0|h0
 ·exact h0
 ·obtain ⟨ad,e,_⟩:=h.2.2 h0;cases e
theorem clone_i.calls (A:Option Addr) (c:Nat) (l:List Int) (W:World) (hC:Kd.C (Kd.int .i64) W A l.length l) (hl:l.length<=1000000):
  Calls prog 141 #[.slice A l.length c] W fun e w'=> ∃v,e= .returned v/\Kd.R (Kd.int .i64) 3 w' W.heap.size (fun _=>True) v l/\Below W.heap.size W w':=by
 cases A with
 |none=>
  obtain rfl:l= [] :=List.eq_nil_of_length_eq_zero (A_none hC);have hnil:=fun (w:World)=>Lib.run_eql_slice_nil (P:=prog) w 57 3 none 0 c 0 0 underlying57
  go_enter func141,ntmps141;go_wp2;go_ret;exact ⟨_,rfl,Kd.R_nil _ _ _ _ _,Zw _ _⟩
 |some ad=>
  have HR:=Za (reads_C hC);clear hC;have hnil:=fun (w:World)=>Lib.run_eql_slice_nil (P:=prog) w 57 3 (some ad) l.length c 0 0 underlying57
  have HO:=Za (World.ownsRow_lit (base:=W.heap.size) (e:=3) (size:=1) W #[] 0 (Zv _) (by decide) rfl);have HB:=Za (aoz (Zw W.heap.size W) (.cells #[] 3));go_enter func141,ntmps141
  go_wp2_with ((with_reducible refine amz (b:= .append) (xs:= #[.tmp 5, .tmp 6]) rfl ?_);at_builtin;refine daz (w0:=W) W.heap.size rfl (.tmp 5) (.tmp 6) 57 3 .i64 8 rfl underlying57 kr_ (by decide) _ [] l (some ad) l.length c rfl rfl HO.o (HR.o.below (aoz (Zw _ _) _)) HB.o (by simp) (by simp;omega) ?_;intro v1 w1 c0 b0 f0 a0;have d0:=Za c0;have e0:=Za b0;clear c0 b0 f0 a0)
  go_ret;exact ⟨_,rfl,dCz d0.o,e0.o⟩
theorem clone_b.calls (A:Option Addr) (c:Nat) (l:List Int) (W:World) (hC:Kd.C (Kd.int .u8) W A l.length l) (hl:l.length<=1000000):
  Calls prog 65 #[.slice A l.length c] W fun e w'=> ∃v,e= .returned v/\Kd.R (Kd.int .u8) 5 w' W.heap.size (fun _=>True) v l/\Below W.heap.size W w':=by
 cases A with
 |none=>
  obtain rfl:l= [] :=List.eq_nil_of_length_eq_zero (A_none hC);have hnil:=fun (w:World)=>Lib.run_eql_slice_nil (P:=prog) w 34 5 none 0 c 0 0 underlying34
  go_enter func65,ntmps65;go_wp2;go_ret;exact ⟨_,rfl,Kd.R_nil _ _ _ _ _,Zw _ _⟩
 |some ad=>
  have HR:=Za (reads_C hC);clear hC;have hnil:=fun (w:World)=>Lib.run_eql_slice_nil (P:=prog) w 34 5 (some ad) l.length c 0 0 underlying34
  have HO:=Za (World.ownsRow_lit (base:=W.heap.size) (e:=5) (size:=1) W #[] 0 (Zv _) (by decide) rfl);have HB:=Za (aoz (Zw W.heap.size W) (.cells #[] 5));go_enter func65,ntmps65
  go_wp2_with ((with_reducible refine amz (b:= .append) (xs:= #[.tmp 5, .tmp 6]) rfl ?_);at_builtin;refine daz (w0:=W) W.heap.size rfl (.tmp 5) (.tmp 6) 34 5 .u8 1 rfl underlying34 kr_ (by decide) _ [] l (some ad) l.length c rfl rfl HO.o (HR.o.below (aoz (Zw _ _) _)) HB.o (by simp) (by simp;omega) ?_;intro v1 w1 c0 b0 f0 a0;have d0:=Za c0;have e0:=Za b0;clear c0 b0 f0 a0)
  go_ret;exact ⟨_,rfl,dCz d0.o,e0.o⟩
theorem own_cut0 {W:World} {base e size g n c:Nat} {xs:List Value} (h:W.ownsRow base e size (.slice (some ⟨g,0,none⟩) n c) n xs):W.ownsRow base e size (.slice (some ⟨g,0,none⟩) 0 c) 0 [] :=by
 obtain ⟨h1,h2|⟨g',cap,cur,he,hb,hh,h3,h4,h5,h6⟩⟩:=h
 ·cases h2.1
 ·injection he with e1 e2 e3
  injection e1 with e1
  injection e1 with e1
  subst e1;subst e3;exact ⟨by simp, .inr ⟨g,c,cur,rfl,hb,hh,Nat.zero_le _,h4,h5,by simp⟩⟩
theorem grow_i.calls (n:Nat) (W:World) (hn:n<=1000000):
  Calls prog 182 #[.slice none 0 0, .int .i64 (n:Int)] W fun e w'=> ∃v,e= .returned v/\w'.ownsRow W.heap.size 3 1 v 0 [] /\Below W.heap.size W w':=by
 have n0:decide ((n:Int)<0)=false:=Ze (by omega);by_cases h0:n=0
 ·subst h0;go_enter func182,ntmps182;go_wp2;go_ret;exact ⟨_,rfl,own_nil _ _ _ _,Zw _ _⟩
 ·have p0:(0:Int)<(n:Int):=by omega
  have p1: ¬((n:Int)<0):=by omega
  have HB:=Za (Zw W.heap.size W);go_enter func182,ntmps182
  go_wp2_with ((with_reducible refine amz (b:= .append) (xs:= #[.tmp 20, .tmp 21]) rfl ?_);at_builtin;refine Kd.R_append_zeros (Kd.int .i64) (w0:=W) W.heap.size rfl (.tmp 20) (.tmp 21) 57 3 3 (.int .i64 0) 8 rfl underlying57 underlying3 kr_ rfl (by decide) (by decide) _ [] 0 (n:Int) (fun _=>True) rfl rfl ?aZ (fun _ _=>trivial) (Kd.R_nil _ _ _ _ _) ?a0 HB.o (Zv _) ?aL ?_;(case aZ=>exact rfl);(case a0=>omega);(case aL=>simp;omega);intro v1 w1 b0 d0 g0 c0;obtain ⟨g,cc,rfl, -, -, -⟩:=Kd.egz b0 (by simp;omega);obtain ⟨inner,hown⟩:=Kd.R_own b0;have e0:=Za (own_cut0 hown);have f0:=Za d0;have hcc:0<=cc:=Nat.zero_le _;clear b0 d0 g0 c0 hown)
  go_ret;exact ⟨_,rfl,e0.o,f0.o⟩
theorem flat_snoc (rows:List (List Int)) (k:Nat) (x:List Int) (hx:rows[k]?=some x):(rows.take (k+1)).flatten=(rows.take k).flatten++x:=by
 rw [List.take_add_one,hx];simp
theorem flat_le (rows:List (List Int)) (k:Nat):(rows.take k).flatten.length<=rows.flatten.length:=by
 conv=>rhs;rw [<-List.take_append_drop k rows,List.flatten_append,List.length_append]
 omega
theorem concat_i.calls (A:Option Addr) (c:Nat) (rows:List (List Int)) (W:World) (hC:Kd.C (Kd.slice 3 (Kd.int .i64)) W A rows.length rows) (hr:rows.length<=1000000) (hl:rows.flatten.length<=1000000):
  Calls prog 159 #[.slice A rows.length c] W fun e w'=> ∃v,e= .returned v/\Kd.R (Kd.int .i64) 3 w' W.heap.size (fun _=>True) v rows.flatten/\Below W.heap.size W w':=by
 have HC:=Za hC;clear hC;go_enter func159,ntmps159;go_wp2
 go_loop [3,11] (fun s i=> ∃k z:Nat,k<=rows.length/\s= .int .i64 (z:Int)/\i= .int .i64 (k:Int)/\Aside0 (z=(rows.take k).flatten.length)) (fun _ i=>rows.length - (intOf i).toNat)
 case atStart=>exact ⟨0,0,Nat.zero_le _,rfl,rfl,⟨rfl⟩⟩
 obtain ⟨k,z,hk,rfl,rfl,HZ⟩:=hrel;have hz:z<=1000000:=by have:=flat_le rows k;have:=HZ.o;omega
 by_cases hlt:k<rows.length
 ·obtain ⟨x,hx⟩: ∃x,rows[k]?=some x:=⟨_,Zf hlt⟩;obtain ⟨ad,A',c',rfl,hcell,hle,a0⟩:=cjz HC.o k x hx;have e0:=Za (show z+x.length=(rows.take (k+1)).flatten.length by rw [flat_snoc rows k x hx,List.length_append, <-HZ.o]);have j0:z+x.length<=1000000:=by have:=flat_le rows (k+1);have:=e0.o;omega
  have k0:decide ((z:Int)+(x.length:Int)<0)=false:=Ze (by omega);have l0: ¬((z:Int)+(x.length:Int)<0):=by omega
  clear hx a0 hle;go_wp2
  go_round
  case rel=>exact ⟨k+1,z+x.length,by omega,by go_num,by go_num,e0⟩
  case measure=>simp [intOf];omega
 ·obtain rfl:k=rows.length:=by omega
  clear hk hlt;have HG:=Za (grow_i.calls z W hz)
  go_wp2_with (first|(go_at_call 182;refine HG.o.mono ?_;rintro e w1 ⟨v,rfl,hv,hB⟩))
  have HV:=Za hv;have HB:=Za hB;clear hv hB HG
  go_loopw [6,27] (fun v i wr=> ∃k:Nat,k<=rows.length/\i= .int .i64 (k:Int)/\Aside0 (wr.ownsRow W.heap.size 3 1 v (rows.take k).flatten.length (nums .i64 (rows.take k).flatten))/\Aside0 (Below W.heap.size W wr)) (fun _ i _=>rows.length - (intOf i).toNat)
  case atStart=>exact ⟨0,Nat.zero_le _,rfl,HV,HB⟩
  clear HV HB;obtain ⟨k,hk,rfl,HV,HB⟩:=hrel;by_cases hlt:k<rows.length
  ·obtain ⟨x,hx⟩: ∃x,rows[k]?=some x:=⟨_,Zf hlt⟩;obtain ⟨ad,A',c',rfl,hcell,hle,a0⟩:=cjz (Kd.aMz HC.o HB.o) k x hx;have HX:=Za (flat_snoc rows k x hx);have i0:=Za (reads_C a0);have HL:=Za (flat_le rows (k+1));rw [HX.o,List.length_append] at HL;clear hx a0 hle
   go_wp2_with ((with_reducible refine amz (b:= .append) (xs:= #[.tmp 31, .tmp 32]) rfl ?_);at_builtin;refine daz (w0:=W) W.heap.size rfl (.tmp 31) (.tmp 32) 57 3 .i64 8 rfl underlying57 kr_ (by decide) _ _ x A' x.length c' rfl rfl HV.o i0.o HB.o HB.o.size (by have:=HL.o;omega) ?_;intro v1 w1 d0 c0 h0 b0;have f0:=Za d0;have g0:=Za c0;clear d0 c0 h0 b0)
   go_roundw
   case rel=>exact ⟨k+1,by omega,by go_num,⟨by rw [HX.o];exact f0.o⟩,g0⟩
   case measure=>simp [intOf];omega
  ·obtain rfl:k=rows.length:=by omega
   have HF:=Za (dCz HV.o);rw [List.take_length] at HF;go_wp2;go_ret;exact ⟨_,rfl,HF.o,HB.o⟩
theorem square.ok (g:Nat) (S:Nat->Prop) (wb p:Int) (A:Option Addr) (c:Nat) (rows:List (List Int)) (W:World) (hw:wb=8\/wb=16) (hM:MayOk wb rows rows.length) (hF:Fd W g wb p S) (hC:Kd.C (Kd.slice 3 (Kd.int .i64)) W A rows.length rows):
  Calls prog 142 #[.pointer (some ⟨g,0,none⟩), .slice A rows.length c] W fun e w'=>e= .returned (.bool true)/\Below W.heap.size W w':=by
 have HM:=Za (dBz.ok g S wb p A c rows.length rows W hw hM hF hC);obtain ⟨r0,b0⟩: ∃r,rows[0]?=some r:=⟨_,Zf (by have:=hM.n1;omega)⟩;obtain ⟨ad,A1,c1,rfl,hcell,hle,c0⟩:=cjz hC 0 r0 b0;have l0:=(hM.each r0 (Zo b0)).1;rw [l0,cRz] at hcell;have n1:(0:Int)<(rows.length:Int):=by have:=hM.n1;omega
 generalize rows.length=nr at *
 have hself:((nr:Int)==(nr:Int))=true:=by simp
 clear hM hF hC b0 c0 l0 hle;go_enter func142,ntmps142
 go_wp2_with (first|(go_at_call 138;refine HM.o.mono ?_;rintro e w1 ⟨rfl,hB⟩;have a0:=a3z hB hcell;have HB:=Za hB;clear hB))
 go_ret;exact ⟨rfl,HB.o⟩
abbrev dM (e:Nat) (k:IntKind):Kd (List Int):=Kd.slice e (Kd.int k)
theorem S_fresh {e t:Nat} {k:IntKind} {wr w1:World} {B:Nat} {v u:Value} {xs:List (List Int)} {row:List Int} (HO:Kd.S (dM e k) t wr B (fun _=>True) v xs) (hb:Below wr.heap.size wr w1) (hB:B<=wr.heap.size) (hrow:Kd.R (Kd.int k) e w1 wr.heap.size (fun _=>True) u row):
  Kd.S (dM e k) t w1 B (fun k'=>True/\ ¬wr.heap.size<=k') v xs/\(dM e k).M w1 B (fun k'=>wr.heap.size<=k') row [u] /\(∀k',wr.heap.size<=k'->True/\some k'≠v.ownBlock):=by
 refine ⟨?_,⟨u,rfl,?_⟩,fun k' hk=>⟨trivial,fun e'=> ?_⟩⟩
 ·have h1:=Kd.bDz HO;exact Kd.dUz (Kd.cPz h1 (fun k' hk=>⟨trivial,by have:=hk.2.2.1;omega⟩)) hb
 ·exact Kd.bCz (Kd.aKz (Kd.bUz hrow) (fun k' hk=>hk.2.1)) hB
 ·have h1:=(Kd.bDz HO);obtain ⟨f,h0, -⟩:=h1;have:=(h0 k' e'.symm).2.2.1;omega
theorem zip_take {α β γ:Type} (f:α->β->γ): ∀(a:List α) (b:List β),List.zipWith f a b=List.zipWith f a (b.take a.length)
 | [],_=>by simp
 |_::_, [] =>by simp
 |x::a,y::b=>by simp [<-zip_take f a b]
theorem C_two {e t:Nat} {k:IntKind} {W:World} {g:Nat} {A B:Option Addr} {x y:List Int} {c d:Nat} (h:W.heap[g]?=some (.cells #[.slice A x.length c, .slice B y.length d] t (0,0))) (hx:Kd.C (Kd.int k) W A x.length x) (hc:x.length<=c) (hy:Kd.C (Kd.int k) W B y.length y) (hd:y.length<=d):
  Kd.C (dM e k) W (some ⟨g,0,none⟩) [x,y].length [x,y] :=by
 refine ⟨rfl,by simp,fun _=>⟨_,rfl,fun j p hp=> ?_⟩⟩
 have hadd: ∀j:Nat,(⟨g,0,none⟩:Addr).add (j*(dM e k).sz+0)=⟨g,j,none⟩:=fun j=>by
  show (⟨g,0,none⟩:Addr).add (j*1+0)=_;unfold Addr.add;split<;>simp_all
 match j,hp with
 |0,hp=>
  obtain rfl:x=p:=by simpa using hp
  refine ⟨[.slice A x.length c],rfl,⟨A,c,rfl,hc,hx⟩,fun i u hu=> ?_⟩
  cases i with
  |succ i=>simp at hu
  |zero=>
   obtain rfl:Value.slice A x.length c=u:=by simpa using hu
   rw [hadd 0,abz h 0];rfl
 |1,hp=>
  obtain rfl:y=p:=by simpa using hp
  refine ⟨[.slice B y.length d],rfl,⟨B,d,rfl,hd,hy⟩,fun i u hu=> ?_⟩
  cases i with
  |succ i=>simp at hu
  |zero=>
   obtain rfl:Value.slice B y.length d=u:=by simpa using hu
   rw [hadd 1,abz h 1];rfl
 |j+2,hp=>simp at hp
theorem beside.calls (A B:Option Addr) (c1 c2 n:Nat) (a b:List (List Int)) (W:World) (hA:Kd.C (dM 3 .i64) W A a.length a) (hB:Kd.C (dM 3 .i64) W B b.length b) (hla:a.length<=1000) (hlb:a.length<=b.length) (hr: ∀x,x∈a->x.length<=1000) (hr': ∀x,x∈b->x.length<=1000):
  Calls prog 143 #[.slice A a.length c1, .slice B b.length c2] W fun e w'=> ∃v,e= .returned v/\Kd.S (dM 3 .i64) 57 w' W.heap.size (fun _=>True) v (List.zipWith (· ++ ·) a b)/\Below W.heap.size W w':=by
 have t0:=Za hA;have u0:=Za hB;have q0:=Za hr;have o0:=Za hr';clear hA hB hr hr';go_enter func143,ntmps143;go_wp2
 go_loopw [5,10] (fun v i wr=> ∃k:Nat,k<=a.length/\i= .int .i64 (k:Int)/\Aside0 (Kd.S (dM 3 .i64) 57 wr W.heap.size (fun _=>True) v (List.zipWith (· ++ ·) (a.take k) (b.take k)))/\Aside0 (Below W.heap.size W wr)) (fun _ i _=>a.length - (intOf i).toNat)
 case atStart=>exact ⟨0,Nat.zero_le _,rfl,⟨Kd.S_nil _ _ _ _ _⟩,⟨Zw _ _⟩⟩
 obtain ⟨k,hk,rfl,HO,HB⟩:=hrel;by_cases hlt:k<a.length
 ·obtain ⟨x,hx⟩: ∃x,a[k]?=some x:=⟨_,Zf hlt⟩;obtain ⟨y,hy⟩: ∃y,b[k]?=some y:=⟨_,Zf (by omega)⟩;obtain ⟨ad,A',c',rfl,hcell,hle,j0⟩:=cjz (Kd.aMz t0.o HB.o) k x hx;obtain ⟨bd,B',d',rfl,d0,a0,g0⟩:=cjz (Kd.aMz u0.o HB.o) k y hy
  have HZ:=Za (show List.zipWith (· ++ ·) (a.take (k+1)) (b.take (k+1))=List.zipWith (· ++ ·) (a.take k) (b.take k)++ [x++y] by
   rw [List.take_add_one,List.take_add_one,hx,hy];rw [List.zipWith_append (by simp;omega)]
   rfl)
  have hlz:(List.zipWith (· ++ ·) (a.take k) (b.take k)).length<=1000:=by simp;omega
  have z0:=Za hlz;have hblk:(wr.alloc (.cells #[.slice A' x.length c', .slice B' y.length d'] 57)).heap[wr.heap.size]?=some (.cells #[.slice A' x.length c', .slice B' y.length d'] 57 (0,0)):=heap_alloc_new _ _;have k0:=Za (C_two (e:=3) hblk (Kd.aMz j0 (aoz (Zw _ _) _)) hle (Kd.aMz g0 (aoz (Zw _ _) _)) a0);have v0:=Za (concat_i.calls (some ⟨wr.heap.size,0,none⟩) 2 [x,y] _ k0.o (by simp) (by have:=q0.o x (Zo hx);have:=o0.o y (Zo hy);simp;omega));have A0:k<b.length:=by omega
  clear hx hy j0 g0 hle a0 hblk hlz
  go_wp2_with fail
  refine v0.o.mono ?_;rintro e w1 ⟨u,rfl,hu,b0⟩;rw [show [x,y].flatten=x++y by simp] at hu;obtain ⟨ua,uc,rfl⟩:=Kd.aQz hu;generalize (x++y).length=nn at hu|-;have c0:=S_fresh (Kd.S_alloc HO.o (.cells #[.slice A' x.length c', .slice B' y.length d'] 57)) b0 (Zt HB.o.size (by simp)) hu;have l0:=Za c0.1;have n0:=Za c0.2.1;have r0:=Za c0.2.2;have h0:=Za (HB.o.trans ((cGz (aoz (Zw _ _) _) b0).mono HB.o.size));have C0:=Za b0.size;clear hu b0 c0
  go_wp2_with ((with_reducible refine amz (b:= .append) (xs:= #[.tmp 15, .tmp 23]) rfl ?_);go_must (at_builtin;refine Kd.bLz (dM 3 .i64) (w0:=W) W.heap.size rfl (.tmp 15) (.tmp 23) 69 57 (.slice none 0 0) 24 rfl underlying69 kr_ rfl (by decide) (by decide) _ _ (x++y) [.slice ua nn uc] (fun _=>True) (fun k'=>(wr.alloc (.cells #[.slice A' x.length c', .slice B' y.length d'] 57)).heap.size<=k') rfl rfl n0.o r0.o (fun _ _=>trivial) l0.o h0.o h0.o.size (by have:=z0.o;omega) ?_);intro v2 w2 i0 f0 p0 e0;have B0:=Za i0;have y0:=Za f0;clear i0 f0 p0 e0)
  go_roundw
  case rel=>exact ⟨k+1,by omega,by go_num,⟨by rw [HZ.o];exact B0.o⟩,y0⟩
  case measure=>simp [intOf];omega
 ·obtain rfl:k=a.length:=by omega
  have HF:=Za HO.o;rw [List.take_length] at HF;go_wp2;go_ret;refine ⟨_,rfl,?_,HB.o⟩;rw [zip_take];exact HF.o
section
variable {F : Fence} {n : Nat} {P : Program}
def SeqH {α:Type} (F:Fence) (n:Nat) (P:Program) (g:Nat) (lb:Array Value) (encs:α->Array Value) (Hd:α->World->Prop) (Kp:World->World->Prop) (S:List α->Prop) (M:Nat) (w:World):Prop:=
 ∀(l:Nat) (J:List α->World->Prop) (W:World),Below w.heap.size w W->(∀s A B,J s A->A.grownBy B none->J s B)->
  (∀pre x W1,J pre W1->Hd x W1->pre.length<M->YieldAt F (n - 1) P l (encs x) W1 fun e W'=>e= .returned (.bool true)/\J (pre++ [x]) W'/\Kp W1 W')->
  J [] W->CallsIn F n P g (#[.func (.yield l) #[] #[]] ++lb) W fun e W'=>(∃v,e= .returned v)/\ ∃xs,S xs/\J xs W'
def plainPost {α:Type} (B:Nat) (Kp:World->World->Prop) (I:List α->World->Prop) (xs:List α) (W:World):Exit->Act->World->Prop
 | .normal,_,W'=>KeepsFrom B W W'/\Kp W W'/\I xs W'
 |_,_,_=>False
theorem fFz {α : Type} {g : Operand} {ps : Array Tmp} {assign body : Code} {Q : Exit -> Act -> World -> Prop} {a : Act} {w : World}
  (hro:F.round=none) (h1:1<=n) {gf:Nat} {lb:Array Value} (hg:a.eval g= .func (.func gf) #[] lb) (hFg:F.fn gf) (eg: ∀args w,(callFunc gf args).run P w= .ok (.enter gf args) w)
  {encs:α->Array Value} {Hd:α->World->Prop} {Kp:World->World->Prop} {S:List α->Prop} {M:Nat} {w0:World} (hseq:SeqH F (n - 1) P gf lb encs Hd Kp S M w0)
  (hKt: ∀ {A B C:World},Kp A B->Kp B C->Kp A C) (hKb: ∀(W:World) (l:Nat) (o o':Obj),w.heap.size<=l->W.heap[l]?=some o->o.isCells=false->Kp W (W.putObj l o')) (a0:Below w0.heap.size w0 w) (hps: ∀x,(encs x).size=ps.size)
  (I:List α->World->Prop) (hI:OwnFrom w.heap.size I) (hHd: ∀x,OwnFrom w.heap.size (fun (_:Unit) W=>Hd x W)) (h0:I [] w) (a₁:α->Act)
  (hassign: ∀(l:Nat) (x:α) (W:World) (K:Act->World->Prop),K (a₁ x) W->
   assign.wpIn (F.inRound l) (n - 1 - 1) P (Exit.then K (fun _ _ _=>False)) { tmps:=(ps.zip (encs x)).foldl (fun t (p,v)=>t.setIfInBounds p v) a.tmps,defers:= [] } W)
  (hbody: ∀(l:Nat) (pre:List α) (x:α) (W:World),I pre W->Hd x W->pre.length<M->body.wpIn (F.inRound l) (n - 1 - 1) P (plainPost w.heap.size Kp I (pre++ [x]) W) (a₁ x) W)
  (hdone: ∀(D:Nat) (xs:List α) (W:World),w.heap.size<=D->S xs->I xs W->W.heap[D]?=some (.deferred (some []))->Q .normal { a with defers:= { target:= .collected D,args:= #[] } ::a.defers } W):
  (Code.rangeFunc g ps assign body).wpIn F n P Q a w:=by
 refine wpIn_rangeFunc fun fn hfn=> ?_
 rw [hro];obtain ⟨L,hL⟩: ∃L:LoopState->Option Code->Loop,L=fun st pe=> { state:=st,pending:=pe,fn,tmps:=a.tmps,params:=ps,assign,body,defers:=w.heap.size } :=⟨_,rfl⟩
 obtain ⟨V,hV⟩: ∃V,(w.alloc (.deferred (some []))).alloc (.loop (L .ready none))=V:=⟨_,rfl⟩
 have vl:V.heap[w.heap.size+1]?=some (.loop (L .ready none)):=by
  rw [<-hV];have:=World.alloc_heap_new (w.alloc (.deferred (some []))) (.loop (L .ready none));rwa [World.size_alloc] at this
 have vd:V.heap[w.heap.size]?=some (.deferred (some [])):=by
  rw [<-hV];exact (Below.heap_alloc _ _ _ (by simp)).trans (World.alloc_heap_new w _)
 refine ⟨w.heap.size+1, [{ target:= .collected w.heap.size,args:= #[] }],V, { target:= .fn (.func gf) lb,args:= #[.func (.yield (w.heap.size+1)) #[] #[]] },V,gf,
  #[.func (.yield (w.heap.size + 1)) #[] #[]] ++ lb, V, by rw [<- hV, hL]; exact run_enterLoop_outer _ _ _ _ _, by simp only [resolve, hg]; simp [go_sem], ?_, by simp [invoke, go_sem, eg], fun _ => h1, ?_⟩
 ·intro f' hf';simp [Target.leads] at hf';subst hf';exact hFg
 refine (hseq (w.heap.size+1) (fun pre W=>(I pre W/\w.heap.size+1<W.heap.size)/\W.heap[w.heap.size+1]?=some (.loop (L .ready none))/\W.heap[w.heap.size]?=some (.deferred (some []))) V ?_ ?_ ?_ ?_).mono ?_
 ·rw [<-hV];exact a0.trans ((((Zw _ w).alloc (Zv _) _).alloc (by simp) _).mono a0.size)
 ·rintro s A B ⟨⟨i1,i2⟩,i3,i4⟩ hgr;exact ⟨⟨hI s A B none i1 hgr (fun r e=>by cases e),Zp i2 hgr.size⟩,(hgr.block _ i2 (by simp)).trans i3,(hgr.block _ (by omega) (by simp)).trans i4⟩
 ·rintro pre x W ⟨⟨i1,i2⟩,i3,i4⟩ hx hlen;have hy:=run_yield (P:=P) (args:=encs x) i3 (by rw [hL];exact hps x);rw [hL] at hy;refine ⟨fn,_,assign,body,hy,roundIn_of_wpIn hfn (hassign _ x W _ ?_)⟩;refine ⟨_,run_beginRound i3 (by rw [hL]),?_⟩;have l2:(W.putObj (w.heap.size+1) (.loop { L .ready none with state:= .busy })).heap[w.heap.size+1]?=some (.loop { L .ready none with state:= .busy }):=World.putObj_heap_same i2;have d2:(W.putObj (w.heap.size+1) (.loop { L .ready none with state:= .busy })).heap[w.heap.size]?=some (.deferred (some [])):=(World.putObj_heap_other (by omega)).trans i4;have k2:Kp W (W.putObj (w.heap.size+1) (.loop { L .ready none with state:= .busy })):=hKb _ _ _ _ (by omega) i3 rfl;refine wpIn_mono (hbody _ pre x _ (hI.putObj _ i1 (by omega) i3 rfl) ((hHd x).putObj (s:=()) _ hx (by omega) i3 rfl) hlen) ?_;rintro e a3 W3 hp
  cases e with
  |normal=>
   obtain ⟨q1,q2,q3⟩:=hp;have l3:=q1.same _ _ (by omega) l2 rfl;have d3:=q1.same _ _ (Zv _) d2 rfl;have hr:=run_endRound (P:=P) none l3;have hlt:=(Array.getElem?_eq_some_iff.1 l3).1;refine ⟨_,_,hr,rfl,⟨⟨hI.putObj _ q3 (by omega) l3 rfl,Zp hlt (grownBy_putObj' _ _ _).size⟩,?_,(World.putObj_heap_other (by omega)).trans d3⟩,hKt (hKt k2 q2) (hKb _ _ _ _ (by omega) l3 rfl)⟩;rw [World.putObj_heap_same hlt,hL];rfl
  |ret=>exact hp.elim
  |exit id=>exact hp.elim
  |goto t=>exact hp.elim
  |panic ch=>exact hp.elim
  |outgrown=>exact hp.elim
 ·refine ⟨⟨?_,?_⟩,vl,vd⟩
  ·rw [<-hV];exact hI.alloc _ (hI.alloc _ h0)
  ·rw [<-hV];simp
 ·rintro e W2 ⟨⟨v,rfl⟩,xs,hS,⟨i1,i2⟩,i3,i4⟩;exact ⟨none,_,by have:=run_endLoop (P:=P) i3 (by rw [hL];simp);rw [hL] at this;exact this,hdone _ xs _ (Zv _) hS (hI.putObj _ i1 (by omega) i3 rfl) ((World.putObj_heap_other (by omega)).trans i4)⟩
end
end Go.Proofs.Xc
end
section
namespace Go.Proofs.Xc
open Go.RowKit Go.Proofs.Pw Go.Proofs.Pl Go.Proofs.Pm Tryz
attribute [local go_sem] a7z a8z bgz bhz aVz aWz a9z baz
attribute [local go_sem] Oper.semAt_some
def colAt (rows:List (List Int)) (j:Nat):List Int:=rows.map (·.getD j 0)
def transp (rows:List (List Int)) (co:Nat):List (List Int):=(List.range co).map (colAt rows)
theorem d2z (rows:List (List Int)) (j:Nat):(colAt rows j).length=rows.length:=by simp [colAt]
theorem transp_take (rows:List (List Int)) (co k:Nat) (hk:k<co):(transp rows co).take (k+1)=(transp rows co).take k++ [colAt rows k] :=by
 rw [List.take_add_one];simp [transp,hk]
def KpX (N:Nat) (ex:Nat->Prop) (W W':World):Prop:=W.heap.size<=W'.heap.size/\ ∀k,k<N-> ¬ex k->W'.heap[k]?=W.heap[k]?
theorem KpX.trans {N:Nat} {ex:Nat->Prop} {A B C:World} (h:KpX N ex A B) (k:KpX N ex B C):KpX N ex A C:=⟨Zt h.1 k.1,fun i hi he=>(k.2 i hi he).trans (h.2 i hi he)⟩
def HdC (m:Nat) (x:List Int×Nat) (W:World):Prop:=x.1.length=m/\W.heap[x.2]?=some (.cells (nums .i64 x.1).toArray 3 (0,0))
def fillTo (col:List Int) (m j:Nat):List Int:=col.take j++List.replicate (m - j) 0
theorem fillTo_set (a0:List Int) (m j:Nat) (x:Int) (hc:a0.length=m) (hj:j<m) (hx:a0[j]?=some x):(fillTo a0 m j).set j x=fillTo a0 m (j+1):=by
 unfold fillTo;rw [List.set_append_right _ _ (by simp;omega),List.length_take,hc,Nat.min_eq_left (by omega),Nat.sub_self,show m - j=(m - (j+1))+1 by omega,List.replicate_succ,Zh,List.take_add_one,hx,List.append_assoc];rfl
theorem fillTo_at (a0:List Int) (m j:Nat) (hc:a0.length=m) (hj:j<m):(fillTo a0 m j)[j]?=some 0:=by
 unfold fillTo;rw [List.getElem?_append_right (by simp;omega),List.length_take,hc,Nat.min_eq_left (by omega),Nat.sub_self,List.getElem?_replicate];simp;omega
theorem d8z (k:IntKind) (l:List Int) (j:Nat) (x:Int) (h:l[j]?=some x):(nums k l).toArray[j]?=some (.int k x):=by
 simp [nums,h]
theorem eOz (n:Nat) (hn:n<=1000000) (W:World):(Instr.makeSlice 57 (.int .i64 (n:Int)) (.int .i64 (n:Int))).run prog W= .ok (.slice (some ⟨W.heap.size,0,none⟩) n n) (W.alloc (.cells (nums .i64 (List.replicate n 0)).toArray 3)):=by
 obtain ⟨i,hi,he⟩:=Option.map_eq_some_iff.1 info3;injection he with hz he
 injection he with hs hb
 have h:=run_make (P:=prog) W 57 3 i (.int .i64 0) underlying57 hi hz .i64 .i64 n n (by omega) (by omega) (by rw [hb];omega) (by omega);rw [hs,Zu,Nat.mul_one] at h;rw [h]
 have:madeCells (Value.int .i64 0).cells n=(nums .i64 (List.replicate n 0)).toArray:=by
  apply Array.ext'
  simp [madeCells,nums,Value.cells];apply List.ext_getElem
  ·simp
  ·intro i h1 h2;simp [Nat.mod_one]
 rw [this]
theorem columns1_in (l Bn N co c : Nat) (ex : Nat -> Prop) (A : Option Addr) (rows : List (List Int)) (W0 W : World) (J : List (List Int × Nat) -> World -> Prop)
  (hF:Kd.F (dM 3 .i64) W0 (fun k=> ¬ex k) A rows.length rows) (hN:W0.heap.size<=N) (p0:N<=W.heap.size) (h0:KpX N ex W0 W) (A0:1<=rows.length) (hm:rows.length<=1000) (hL: ∀r,r∈rows->r.length=co) (hco:co<=1000)
  (hB:W.heap[Bn]?=some (.cells #[.slice A rows.length c] 69 (0,0))) (C0:Bn<N) (y0: ¬ex Bn) (hJ: ∀s X Y,J s X->X.grownBy Y none->J s Y)
  (hY: ∀pre x W1,J pre W1->HdC rows.length x W1->pre.length<co->YieldAt Fence.wide (7 - 1) prog l #[.slice (some ⟨x.2,0,none⟩) x.1.length x.1.length] W1 fun e W'=>e= .returned (.bool true)/\J (pre++ [x]) W'/\KpX N ex W1 W') (o0:J [] W):
  CallsIn Fence.wide 7 prog 196 #[.func (.yield l) #[] #[], .pointer (some ⟨Bn,0,none⟩)] W fun e W'=>(∃v,e= .returned v)/\ ∃xs:List (List Int×Nat),xs.map Prod.fst=transp rows co/\J xs W':=by
 obtain ⟨r0,f0⟩: ∃r,rows[0]?=some r:=⟨_,Zf (by omega)⟩;have HC: ∀W',KpX N ex W0 W'->Kd.C (dM 3 .i64) W' A rows.length rows:=fun W' hk=>hF W' (fun k G0 I0=>hk.2 k (by omega) G0)
 have HB: ∀W',KpX N ex W W'->W'.heap[Bn]?=some (.cells #[.slice A rows.length c] 69 (0,0)):=fun W' hk=>(hk.2 Bn C0 y0).trans hB
 obtain ⟨ad,A1,c1,rfl,hcell,hle, -⟩:=cjz (HC W h0) 0 r0 f0;rw [cRz,hL r0 (Zo f0)] at hcell;have hbc:W.cell? ⟨Bn,0,none⟩=some (.slice (some ad) rows.length c):=(abz hB 0).trans rfl;have n1:(0:Int)<(rows.length:Int):=by omega
 have HC:=Za HC;have HB:=Za HB;have H0:=Za h0;have HL:=Za hL;have HJ:=Za hJ;have HY:=Za hY;have q0:=Za o0;have J0:=Za (aUz hB);have u0:=Za p0;clear p0;clear hF f0 hle h0 hL hJ hY o0 hB;obtain ⟨m,hm'⟩: ∃m,m=rows.length:=⟨_,rfl⟩;have b0:=Za hm';rw [<-hm'] at A0 hm hbc n1;clear hm';refine callsIn_of_wp func196 rfl trivial ?_ rfl;simp only [ntmps196,List.size_toArray,List.length_cons,List.length_nil,Nat.reduceAdd,Nat.reduceSub,Array.replicate_succ,Array.replicate_zero,List.push_toArray,List.append_toArray,List.nil_append,List.cons_append]
 gi_wp2
 gi_loopw [10] (fun i wr=> ∃(k:Nat) (pre:List (List Int×Nat)),k<=co/\i= .int .i64 (k:Int)/\Aside0 (pre.map Prod.fst=(transp rows co).take k)/\Aside0 (J pre wr)/\Aside0 (KpX N ex W wr)) (fun i _=>co - (intOf i).toNat)
 case atStart=>exact ⟨0, [],Nat.zero_le _,rfl,⟨rfl⟩,q0,⟨Zv _,fun _ _ _=>rfl⟩⟩
 clear q0 hcell hbc;obtain ⟨wq,rfl⟩: ∃wq,wq=wr:=⟨_,rfl⟩;obtain ⟨k,pre,hk,rfl,HP,k0,HK⟩:=hrel;have hbc:wq.cell? ⟨Bn,0,none⟩=some (.slice (some ad) m c):=by rw [b0.o];exact (abz (HB.o _ HK.o) 0).trans rfl
 by_cases hlt:k<co
 ·have hmk:=eOz m (by omega);have w0:=Za (show W.heap.size<=wq.heap.size from HK.o.1);have g0:(wq.alloc (.cells (nums .i64 (List.replicate m 0)).toArray 3)).cell? ⟨Bn,0,none⟩=some (.slice (some ad) m c):=(World.cell?_alloc_past _ _ _ (Zj _ _ hbc)).trans hbc
  have d0:=Za (show (wq.alloc (.cells (nums .i64 (List.replicate m 0)).toArray 3)).heap[wq.heap.size]?=some (.cells (nums .i64 (fillTo (colAt rows k) m 0)).toArray 3 (0,0)) by
   rw [heap_alloc_new];simp [fillTo])
  gi_wp2
  have i0:=Za (show Below wq.heap.size wq (wq.alloc (.cells (nums .i64 (List.replicate m 0)).toArray 3)) from aoz (Zw _ _) _);generalize wq.alloc (.cells (nums .i64 (List.replicate m 0)).toArray 3)=w1 at d0 i0|-;obtain ⟨cb,hcb⟩: ∃cb,cb=wq.heap.size:=⟨_,rfl⟩;have E0:=Za hcb;rw [<-hcb] at d0|-;clear hcb g0 hmk hbc
  gi_loopw [18] (fun i w2=> ∃j:Nat,j<=m/\i= .int .i64 (j:Int)/\Aside0 (w2.heap[cb]?=some (.cells (nums .i64 (fillTo (colAt rows k) m j)).toArray 3 (0,0)))/\Aside0 (Below wq.heap.size wq w2)) (fun i _=>m - (intOf i).toNat)
  case atStart=>exact ⟨0,Nat.zero_le _,rfl,d0,i0⟩
  obtain ⟨w2,rfl⟩: ∃w2,w2=wr:=⟨_,rfl⟩;clear d0 i0;obtain ⟨j,hj,rfl,e0,a0⟩:=hrel;have j0:=Za (show KpX N ex W w2 from HK.o.trans ⟨a0.o.size,fun i hi _=>a0.o.block i (by have:=w0.o;have:=u0.o;omega)⟩);have hbc:w2.cell? ⟨Bn,0,none⟩=some (.slice (some ad) m c):=by rw [b0.o];exact (abz (HB.o _ j0.o) 0).trans rfl
  by_cases hjl:j<m
  ·obtain ⟨r,hr⟩: ∃r,rows[j]?=some r:=⟨_,Zf (by have:=b0.o;omega)⟩;obtain ⟨ad',A',c',ha',hcell,hle,hC'⟩:=cjz (HC.o w2 (H0.o.trans j0.o)) j r hr;obtain rfl:ad=ad':=Zn ha';have hrl:=HL.o r (Zo hr);obtain ⟨x,hx⟩: ∃x,r[k]?=some x:=⟨_,Zf (by omega)⟩;obtain ⟨bd,rfl,hcx⟩:=cKz hC' k x hx;rw [hrl] at hcell;have c0:(colAt rows k)[j]?=some x:=by simp [colAt,hr,Zm,hx]
   have F0:w2.cell? ⟨cb,j,none⟩=some (.int .i64 0):=(abz e0.o j).trans (d8z _ _ _ _ (fillTo_at _ _ _ (by rw [d2z,b0.o]) hjl));have hcf:=bbz e0.o j;have D0:=Za (show (w2.setCell ⟨cb,j,none⟩ (.int .i64 x)).heap[cb]?=some (.cells (nums .i64 (fillTo (colAt rows k) m (j+1))).toArray 3 (0,0)) from dPz e0.o j x (fillTo_set _ _ _ _ (by rw [d2z,b0.o]) hjl c0));have z0:=Za (show Below wq.heap.size wq (w2.setCell ⟨cb,j,none⟩ (.int .i64 x)) from a0.o.setCell (p:=⟨cb,j,none⟩) (by rw [<-E0.o];exact Zv _) _);have i1:(0:Int)<=(j:Int):=by omega
   have i2:(j:Int)<(m:Int):=by omega
   have i3:(0:Int)<=(k:Int):=by omega
   have i4:(k:Int)<(co:Int):=by omega
   clear hr ha' hle hC' hrl hx c0
   gi_wp2
   go_roundw
   case rel=>exact ⟨j+1,by omega,by go_num,D0,z0⟩
   case measure=>simp [intOf];omega
  ·obtain rfl:j=m:=by omega
   have hcl:(colAt rows k).length=j:=by rw [d2z,b0.o]
   have hfc:fillTo (colAt rows k) j j=colAt rows k:=by unfold fillTo;rw [<-hcl,List.take_length,Nat.sub_self];simp
   have hHd:HdC rows.length (colAt rows k,cb) w2:=by have:=e0.o;rw [hfc] at this;exact ⟨d2z _ _,this⟩
   have t0:J pre w2:=HJ.o _ wq w2 k0.o ⟨a0.o.os,a0.o.tape,a0.o.output,a0.o.size,fun i hi _=>a0.o.block i hi⟩;obtain ⟨fn,tmps,assign,body,hy,hR⟩:=HY.o pre (colAt rows k,cb) w2 t0 hHd (by have:=congrArg List.length HP.o;simp [transp] at this;omega);dsimp only at hy;rw [hcl] at hy;have HRR:=Za hR;clear hR hHd hfc hcl t0 hbc
   gi_wp2
   refine HRR.o.mono ?_;rintro e w3 ⟨rfl,l0,n0⟩;have v0:=Za l0;have B0:=Za n0;clear hy l0 n0
   gi_wp2
   go_roundw
   case rel=>exact ⟨k+1,pre++ [(colAt rows k,cb)],by omega,by go_num,⟨by rw [transp_take rows co k hlt,List.map_append,HP.o];rfl⟩,v0,⟨j0.o.trans B0.o⟩⟩
   case measure=>simp [intOf];omega
 ·obtain rfl:k=co:=by omega
  gi_wp2
  go_end0
  exact ⟨⟨_,rfl⟩,pre,by rw [HP.o,List.take_of_length_le (by simp [transp])],k0.o⟩
theorem columns.calls (A:Option Addr) (m c:Nat) (W:World):Calls prog 184 #[.slice A m c] W fun e w'=>e= .returned (.func (.func 196) #[] #[.pointer (some ⟨W.heap.size,0,none⟩)])/\w'=W.alloc (.cells #[.slice A m c] 69):=by
 have a0: ∀(fn:Fn) (first cap:Array Value) (w:World),(Instr.makeFunc fn first cap).run prog w= .ok (.func fn first cap) w:=fun _ _ _ _=>rfl
 go_enter func184,ntmps184;go_wp2;go_ret;exact ⟨rfl,rfl⟩
theorem columns_seq (Bn N co c : Nat) (ex : Nat -> Prop) (A : Option Addr) (rows : List (List Int)) (W0 w : World)
  (hF:Kd.F (dM 3 .i64) W0 (fun k=> ¬ex k) A rows.length rows) (hN:W0.heap.size<=N) (d0:N<=w.heap.size) (h0:KpX N ex W0 w) (e0:1<=rows.length) (hm:rows.length<=1000) (hL: ∀r,r∈rows->r.length=co) (hco:co<=1000)
  (hB:w.heap[Bn]?=some (.cells #[.slice A rows.length c] 69 (0,0))) (a0:Bn<N) (b0: ¬ex Bn):
  SeqH Fence.wide 7 prog 196 #[.pointer (some ⟨Bn,0,none⟩)] (fun x:List Int×Nat=> #[.slice (some ⟨x.2,0,none⟩) x.1.length x.1.length]) (HdC rows.length) (KpX N ex) (fun xs=>xs.map Prod.fst=transp rows co) co w:=by
 intro l J W hW hJ hY c0;have hk:KpX N ex w W:=⟨hW.size,fun k hk _=>hW.block k (by omega)⟩;exact columns1_in l Bn N co c ex A rows W0 W J hF hN (Zt d0 hW.size) (h0.trans hk) e0 hm hL hco ((hk.2 Bn a0 b0).trans hB) a0 b0 hJ hY c0
end Go.Proofs.Xc
end
section
namespace Go.Proofs.Xc
open Go.RowKit Go.Proofs.Pw Go.Proofs.Pl Go.Proofs.Pm Tryz
attribute [local go_sem] a7z a8z bgz bhz aVz aWz a9z baz
def wN (wb:Int):Nat:=if wb=8 then 1 else 2
def wTo (n:Nat) (b:List Int):Nat->List Int
 |0=>List.replicate (b.length / n) 0
 |i+1=>if i % n=0 then (wTo n b i).set (i / n) (wrap64 (b.getD i 0)) else (wTo n b i).set (i / n) (wrap64 ((wTo n b i).getD (i / n) 0+wrap64 (256*wrap64 (b.getD i 0))))
def wordsF (wb:Int) (b:List Int):List Int:=wTo (wN wb) b b.length
theorem eoz (n:Nat) (b:List Int): ∀i,(wTo n b i).length=b.length / n
 |0=>List.length_replicate
 |i+1=>by unfold wTo;split<;>rw [List.length_set,eoz n b i]
theorem rwidth.calls (g:Nat) (wb p:Int) (S:Nat->Prop) (W:World) (hw:wb=8\/wb=16) (hF:Fd W g wb p S):
  Calls prog 149 #[.pointer (some ⟨g,0,none⟩)] W fun e w'=>e= .returned (.int .i64 (wN wb:Nat))/\Drawn0 W w':=by
 have HF:=Za hF;clear hF;rcases hw with rfl|rfl
 all_goals
  go_enter func149,ntmps149
  go_wp2_with fail
  refine (gf_Bits.calls g _ p S _ HF.o).mono ?_;rintro e w1 ⟨rfl,m1,rfl⟩;go_wp2;go_ret;exact ⟨by simp [wN],Drawn0.step (Drawn0.refl _) _⟩
theorem rin.calls (g:Nat) (wb p a:Int) (S:Nat->Prop) (W:World) (hw:wb=8\/wb=16) (hF:Fd W g wb p S):
  Calls prog 102 #[.pointer (some ⟨g,0,none⟩), .int .i64 a] W fun e w'=>e= .returned (.bool (inF wb a))/\Drawn0 W w':=by
 have HF:=Za hF;have HW:=Za hw;clear hF hw;by_cases h:0<=a
 ·have h1:decide (0<=a)=true:=Zd h;go_enter func102,ntmps102
  go_wp2_with fail
  refine (euz.calls g _ p S _ HF.o HW.o).mono ?_;rintro e w1 ⟨rfl,m1,rfl⟩;go_wp2;go_ret;exact ⟨by simp [inF,h],Drawn0.step (Drawn0.refl _) _⟩
 ·have h1:decide (0<=a)=false:=Ze h;go_enter func102,ntmps102;go_wp2;go_ret;exact ⟨by rw [show inF wb a=false by unfold inF;rw [h1];rfl];rfl,Drawn0.refl _⟩
theorem rWords.bad (g:Nat) (wb p:Int) (S:Nat->Prop) (A:Option Addr) (c:Nat) (b:List Int) (W:World) (hw:wb=8\/wb=16) (hF:Fd W g wb p S) (hl:b.length<=1000000) (hd:b.length % wN wb≠0):
  Calls prog 101 #[.pointer (some ⟨g,0,none⟩), .slice A b.length c] W fun e w'=>e= .returned (.tuple #[.slice none 0 0, .int .i64 1])/\Drawn0 W w':=by
 have HC:=Za (rwidth.calls g wb p S W hw hF);rcases hw with rfl|rfl
 ·simp [wN] at hd;exact Yf (Nat.mod_one _) hd
 ·have b0:((b.length:Int) % 2==0)=false:=by simp [wN] at hd;simp;omega
  have a0:((b.length:Int) % 2 !=0)=true:=by simp [wN] at hd;simp;omega
  generalize b.length=n at hl hd b0 a0|-;have HN:=Za (show wN 16=2 from rfl);rw [HN.o] at HC;clear hF hd;go_enter func101,ntmps101
  go_wp2_with fail
  refine HC.o.mono ?_;rintro e w1 ⟨rfl,m1,rfl⟩;go_wp2;go_ret2;exact ⟨rfl,Drawn0.step (Drawn0.refl _) _⟩
theorem cWz {W w:World} {n lb:Nat} (h:Below n W w) (hl:n<=lb) (j:Nat) (u:Value):Below n W (w.setCell ⟨lb,j,none⟩ u):=
 ⟨h.os,h.tape,h.output,by simpa using h.size,fun i hi=>(Below.heap_setCell w ⟨lb,j,none⟩ u i (by show i≠lb;omega)).trans (h.block i hi)⟩
def WordsOk (W:World) (l:List Int) (e:Ending) (w':World):Prop:= ∃lb,e= .returned (.tuple #[.slice (some ⟨lb,0,none⟩) l.length l.length, .int .i64 0])/\w'.heap[lb]?=some (.cells (nums .i64 l).toArray 3 (0,0))/\W.heap.size<=lb/\Below W.heap.size W w'
theorem rWords.ok8 (g:Nat) (p:Int) (S:Nat->Prop) (A:Option Addr) (c:Nat) (b:List Int) (W:World) (hF:Fd W g 8 p S) (hb:Kd.C (Kd.int .u8) W A b.length b) (hl:b.length<=1000000):
  Calls prog 101 #[.pointer (some ⟨g,0,none⟩), .slice A b.length c] W (WordsOk W (wordsF 8 b)):=by
 have HC:=Za (rwidth.calls g 8 p S W (.inl rfl) hF);have HN:=Za (show wN 8=1 from rfl);rw [HN.o] at HC;have HB:=Za hb;have HT:=Za (show∀i,(wTo 1 b i).length=b.length from fun i=>by rw [eoz,Nat.div_one]);obtain ⟨res,hres⟩: ∃r,wordsF 8 b=r:=⟨_,rfl⟩;have a0:=Za (show wTo 1 b b.length=res from hres);rw [hres];have e0:=Za (show res.length=b.length by rw [<-a0.o,HT.o]);obtain ⟨n,hn⟩: ∃n,b.length=n:=⟨_,rfl⟩;have HLEN:=Za hn;rw [hn] at HB HT a0 e0 hl|-;have hmk:=eOz n hl;clear hF hb hres hn;go_enter func101,ntmps101
 go_wp2_with fail
 refine HC.o.mono ?_;rintro e w1 ⟨rfl,m1,rfl⟩;go_wp2;have c0:=Za (show Below W.heap.size W ((W.drewN m1).alloc (.cells (nums .i64 (List.replicate n 0)).toArray 3)) from aoz (a2z (Zw _ _) _) _)
 have b0:=Za (show ((W.drewN m1).alloc (.cells (nums .i64 (List.replicate n 0)).toArray 3)).heap[W.heap.size]?=some (.cells (nums .i64 (wTo 1 b 0)).toArray 3 (0,0)) by
  have:wTo 1 b 0=List.replicate n 0:=by rw [wTo,Nat.div_one,HLEN.o]
  rw [this];exact heap_alloc_new _ _)
 obtain ⟨lb,hlb⟩: ∃lb,lb=W.heap.size:=⟨_,rfl⟩;have f0:=Za (show W.heap.size<=lb by omega);rw [<-hlb] at b0|-;clear hmk hlb HC;generalize (W.drewN m1).alloc (.cells (nums .i64 (List.replicate n 0)).toArray 3)=w2 at c0 b0|-;have g0:=Za (show lb<9223372036854775807->True from fun _=>trivial)
 go_loopw [28] (fun iv wr=> ∃k:Nat,k<=n/\iv= .int .i64 (k:Int)/\Aside0 (wr.heap[lb]?=some (.cells (nums .i64 (wTo 1 b k)).toArray 3 (0,0)))/\Aside0 (Below W.heap.size W wr)) (fun iv _=>n - (intOf iv).toNat)
 case atStart=>exact ⟨0,Nat.zero_le _,rfl,b0,c0⟩
 clear b0 c0;obtain ⟨w3,rfl⟩: ∃w3,w3=wr:=⟨_,rfl⟩;obtain ⟨k,hk,rfl,HX,d0⟩:=hrel;by_cases hlt:k<n
 ·obtain ⟨x,hx⟩: ∃x,b[k]?=some x:=⟨_,Zf (by have:=HLEN.o;omega)⟩;obtain ⟨ad,rfl,i0⟩:=cKz (Kd.aMz (HLEN.o.symm▸HB.o) d0.o) k x hx;obtain ⟨y,hy⟩: ∃y,(wTo 1 b k)[k]?=some y:=⟨_,Zf (by rw [HT.o];omega)⟩;have hcy:w3.cell? ⟨lb,k,none⟩=some (.int .i64 y):=(abz HX.o k).trans (d8z .i64 _ _ _ hy);have h0:=bbz HX.o k
  have HST:=Za (show (wTo 1 b k).set k (wrap64 x)=wTo 1 b (k+1) by
   have:b.getD k 0=x:=by rw [Zm,hx];rfl
   rw [wTo,Ya (Nat.mod_one _),Nat.div_one,this])
  have k1:(0:Int)<=(k:Int):=by omega
  have k2:(k:Int)<(n:Int):=by omega
  clear hx hy;go_wp2;refine ⟨⟨k+1,by omega,by go_num,⟨dPz HX.o k _ HST.o⟩,⟨cWz d0.o f0.o _ _⟩⟩,by simp [intOf];omega⟩
 ·obtain rfl:k=n:=by omega
  go_wp2;go_ret2;exact ⟨lb,by rw [e0.o];rfl,by rw [<-a0.o];exact HX.o,f0.o,d0.o⟩
theorem rWords.ok16 (g:Nat) (p:Int) (S:Nat->Prop) (A:Option Addr) (c:Nat) (b:List Int) (W:World) (hF:Fd W g 16 p S) (hb:Kd.C (Kd.int .u8) W A b.length b) (hl:b.length<=1000000) (hd:b.length % 2=0):
  Calls prog 101 #[.pointer (some ⟨g,0,none⟩), .slice A b.length c] W (WordsOk W (wordsF 16 b)):=by
 have HC:=Za (rwidth.calls g 16 p S W (.inr rfl) hF);have HN:=Za (show wN 16=2 from rfl);rw [HN.o] at HC;have HB:=Za hb;have HT:=Za (show∀i,(wTo 2 b i).length=b.length / 2 from fun i=>eoz _ _ _);obtain ⟨res,hres⟩: ∃r,wordsF 16 b=r:=⟨_,rfl⟩;have a0:=Za (show wTo 2 b b.length=res from hres);rw [hres];have d0:=Za (show res.length=b.length / 2 by rw [<-a0.o,HT.o]);obtain ⟨n,hn⟩: ∃n,b.length=n:=⟨_,rfl⟩;have HLEN:=Za hn;rw [hn] at HB HT a0 d0 hl|-;obtain ⟨q,hq⟩: ∃q,n / 2=q:=⟨_,rfl⟩;rw [hq] at d0 HT;have HQ:=Za hq;have d1:((n:Int) % 2 !=0)=false:=by rw [hn] at hd;simp;omega
 have d2:(n:Int) / 2=(q:Int):=by omega
 have HD:=Za (show n=2*q by rw [hn] at hd;omega);have hmk:=eOz q (by omega);clear hF hb hres hn hq hd;go_enter func101,ntmps101
 go_wp2_with fail
 refine HC.o.mono ?_;rintro e w1 ⟨rfl,m1,rfl⟩;go_wp2;have e0:=Za (show Below W.heap.size W ((W.drewN m1).alloc (.cells (nums .i64 (List.replicate q 0)).toArray 3)) from aoz (a2z (Zw _ _) _) _)
 have b0:=Za (show ((W.drewN m1).alloc (.cells (nums .i64 (List.replicate q 0)).toArray 3)).heap[W.heap.size]?=some (.cells (nums .i64 (wTo 2 b 0)).toArray 3 (0,0)) by
  have:wTo 2 b 0=List.replicate q 0:=by rw [wTo,HLEN.o,HQ.o]
  rw [this];exact heap_alloc_new _ _)
 obtain ⟨lb,hlb⟩: ∃lb,lb=W.heap.size:=⟨_,rfl⟩;have f0:=Za (show W.heap.size<=lb by omega);rw [<-hlb] at b0|-;clear hmk hlb HC d1 d2;generalize (W.drewN m1).alloc (.cells (nums .i64 (List.replicate q 0)).toArray 3)=w2 at e0 b0|-;have h0:=Za (show lb<9223372036854775807->True from fun _=>trivial)
 go_loopw [28] (fun iv wr=> ∃k:Nat,k<=n/\iv= .int .i64 (k:Int)/\Aside0 (wr.heap[lb]?=some (.cells (nums .i64 (wTo 2 b k)).toArray 3 (0,0)))/\Aside0 (Below W.heap.size W wr)) (fun iv _=>n - (intOf iv).toNat)
 case atStart=>exact ⟨0,Nat.zero_le _,rfl,b0,e0⟩
 clear b0 e0;obtain ⟨w3,rfl⟩: ∃w3,w3=wr:=⟨_,rfl⟩;obtain ⟨k,hk,rfl,HX,c0⟩:=hrel;by_cases hlt:k<n
 ·obtain ⟨x,hx⟩: ∃x,b[k]?=some x:=⟨_,Zf (by have:=HLEN.o;omega)⟩;obtain ⟨ad,rfl,j0⟩:=cKz (Kd.aMz (HLEN.o.symm▸HB.o) c0.o) k x hx;obtain ⟨j,hj⟩: ∃j,k / 2=j:=⟨_,rfl⟩;have hjq:j<q:=by have:=HD.o;omega
  obtain ⟨y,hy⟩: ∃y,(wTo 2 b k)[j]?=some y:=⟨_,Zf (by rw [HT.o];exact hjq)⟩;have hcy:w3.cell? ⟨lb,j,none⟩=some (.int .i64 y):=(abz HX.o j).trans (d8z .i64 _ _ _ hy);have i0:=bbz HX.o j;have hgx:b.getD k 0=x:=by rw [Zm,hx];rfl
  have g0:(wTo 2 b k).getD j 0=y:=by rw [Zm,hy];rfl
  have d3:(k:Int) / 2=(j:Int):=by omega
  have k1:(0:Int)<=(k:Int):=by omega
  have k2:(k:Int)<(n:Int):=by omega
  have j1:(0:Int)<=(j:Int):=by omega
  have j2:(j:Int)<(q:Int):=by omega
  by_cases h2:k % 2=0
  ·have HST := Za (show (wTo 2 b k).set j (wrap64 x) = wTo 2 b (k + 1) by
    rw [wTo,Ya h2,hj,hgx])
   have d4:((k:Int) % 2==0)=true:=by simp;omega
   clear hx hy hj hgx g0 h2;go_wp2;refine ⟨⟨k+1,by omega,by go_num,⟨dPz HX.o j _ HST.o⟩,⟨cWz c0.o f0.o _ _⟩⟩,by simp [intOf];omega⟩
  ·have HST := Za (show (wTo 2 b k).set j (wrap64 (y + wrap64 (256 * wrap64 x))) = wTo 2 b (k + 1) by
    rw [wTo,Yb h2,hj,hgx,g0])
   have d4:((k:Int) % 2==0)=false:=by simp;omega
   clear hx hy hj hgx g0 h2;go_wp2;refine ⟨⟨k+1,by omega,by go_num,⟨dPz HX.o j _ HST.o⟩,⟨cWz c0.o f0.o _ _⟩⟩,by simp [intOf];omega⟩
 ·obtain rfl:k=n:=by omega
  go_wp2;go_ret2;exact ⟨lb,by rw [d0.o];rfl,by rw [<-a0.o];exact HX.o,f0.o,c0.o⟩
end Go.Proofs.Xc
end
