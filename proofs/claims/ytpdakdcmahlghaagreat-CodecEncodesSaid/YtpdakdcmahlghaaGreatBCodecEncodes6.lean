-- Joined texts of this work (wip/tools/bundle.py).
import Derived.WalkSpells
import Derived.Deep.DeepMust
import Derived.RangeFuncNested
import Derived.RangeFuncBound
import Derived.RangeFuncCalls
import Derived.RangeFuncLeaves
import Derived.Laws.BitsAllLaws
import Derived.Maps.OwnSet
import Derived.Maps.Views
import Derived.RangeFuncOwn
import Derived.Test.YtpdakdcmahlghaaGreatBCodecEncodes5
set_option maxHeartbeats 8000000
set_option maxRecDepth 100000
set_option linter.unusedVariables false
set_option linter.unusedSimpArgs false
section
namespace Go.Proofs.Xc
open Go.RowKit Go.Proofs.Pw Go.Proofs.Pl Go.Proofs.Pm
attribute [local go_sem] baz bbz bmz bnz a2z a3z bcz bdz
def idxF {α:Type} (p:α->Bool):List α->Int
 | [] => -1
 |x::l=>if p x then 0 else if idxF p l<0 then -1 else idxF p l+1
theorem dzz {α:Type} (p:α->Bool): ∀l:List α, -1<=idxF p l/\idxF p l<l.length/\(idxF p l<0↔l.any p=false)
 | [] =>by simp [idxF]
 |x::l=>by
  have h:=dzz p l;unfold idxF
  cases hx:p x with
  |true=>simp [hx]
  |false=>
   simp only [Bool.false_eq_true,if_false,List.any_cons,hx,Bool.false_or,List.length_cons];refine ⟨?_,?_,?_⟩
   ·split<;>omega
   ·split<;>omega
   ·rw [<-h.2.2];split<;>omega
theorem idxF_any {α : Type} (p : α -> Bool) (l : List α) : decide (0 <= idxF p l) = l.any p := by
  have h:=dzz p l
  cases ha:l.any p with
  | true => have : ¬ idxF p l < 0 := fun hh => by rw [h.2.2.1 hh] at ha; cases ha
            exact Zd (by omega)
  |false=>exact Ze (by have:=h.2.2.2 ha;omega)
theorem idxF_at {α:Type} (p:α->Bool): ∀(l:List α) (k:Nat) (x:α),l[k]?=some x->(l.take k).any p=false->p x=true->idxF p l=k
 | [],k,x,h,_,_=>by simp at h
 |y::l,0,x,h,_,hp=>by
  obtain rfl:y=x:=by simpa using h
  simp [idxF,hp]
 |y::l,k+1,x,h,ha,hp=>by
  simp only [List.take_succ_cons,List.any_cons,Bool.or_eq_false_iff] at ha;have:=idxF_at p l k x (by simpa using h) ha.2 hp;unfold idxF;rw [ha.1,this];simp only [Bool.false_eq_true,if_false];rw [Yb (by omega)];omega
theorem idxF_none {α:Type} (p:α->Bool) (l:List α) (h:l.any p=false):idxF p l= -1:=by
 have h1:=dzz p l;have:=h1.2.2.2 h;omega
theorem d7z {α:Type} (p:α->Bool) (l:List α) (k:Nat) (x:α) (h:l[k]?=some x):(l.take (k+1)).any p=((l.take k).any p||p x):=by
 rw [List.take_add_one,h];simp
theorem b9z {α : Type} {d : Kd α} {e : Nat} {W : World} {A : Option Addr} {rows : List (List α)} (h : Kd.C (Kd.slice e d) W A rows.length rows) (k : Nat) (x : List α) (hx : rows[k]? = some x) :
  ∃ad A' c',A=some ad/\W.cell? (ad.add k)=some (.slice A' x.length c')/\x.length<=c'/\Kd.C d W A' x.length x:=by
 have hlt:=(Zk hx).1;obtain ⟨ad,c,hA,hl,hK,hc⟩:=Kd.C_get h ([] :List α) (k:Int) (by omega) (by omega);rw [Zu,Zm,hx] at hK;obtain ⟨A',c',rfl,hle,hC⟩:=hK;refine ⟨ad,A',c',hA,?_,hle,hC⟩;have:=hc 0 _ rfl;rwa [show (k:Int).toNat*(Kd.slice e d).sz+0=k from by show (k:Int).toNat*1+0=k;omega] at this
theorem cuz {k:IntKind} {W:World} {A:Option Addr} {l:List Int} (h:Kd.C (Kd.int k) W A l.length l) (j:Nat) (x:Int) (hx:l[j]?=some x): ∃ad,A=some ad/\W.cell? (ad.add j)=some (.int k x):=by
 have hlt:=(Zk hx).1;obtain ⟨ad,c,hA,hl,hK,hc⟩:=Kd.C_get h 0 (j:Int) (by omega) (by omega);rw [Zu,Zm,hx] at hK;refine ⟨ad,hA,?_⟩;have hK':c= [.int k x] :=hK;subst hK';have:=hc 0 _ rfl;rwa [show (j:Int).toNat*(Kd.int k).sz+0=j from by show (j:Int).toNat*1+0=j;omega] at this
theorem idx_May11.calls (p : Int -> Bool) (q0 : Value) (A : Option Addr) (c : Nat) (l : List Int) (W : World) (hr : Kd.C (Kd.int .i64) W A l.length l) (hl : l.length <= 1000000)
  (hp: ∀(m:Nat) (x:Int),x∈l->Calls Tryz.prog 173 #[.int .i64 x,q0] (W.drewN m) fun e w'=>e= .returned (.bool (p x))/\Drawn0 (W.drewN m) w'):
  Calls Tryz.prog 189 #[.slice A l.length c, .func (.func 173) #[] #[q0]] W fun e w'=>e= .returned (.int .i64 (idxF p l))/\Drawn0 W w':=by
 have HR:=Za hr;have HP:=Za hp;clear hr hp;go_enter Tryz.func189,Tryz.ntmps189;go_wp2
 go_loopw [8] (fun i wr=> ∃k m:Nat,k<=l.length/\i= .int .i64 k/\wr=W.drewN m/\Aside0 ((l.take k).any p=false)) (fun i _=>l.length - (intOf i).toNat)
 case atStart=>exact ⟨0,0,Nat.zero_le _,rfl,rfl,⟨rfl⟩⟩
 obtain ⟨k,m,hk,rfl,rfl,HA⟩:=hrel;by_cases hlt:k<l.length
 ·obtain ⟨x,hx⟩: ∃x,l[k]?=some x:=⟨_,Zf hlt⟩;obtain ⟨ad,rfl,hcell⟩:=cuz HR.out k x hx;have HX:=Za hx;clear hx
  cases hpx:p x with
  |true=>
   have HI:=Za (idxF_at p l k x HX.out HA.out hpx);have HPX:=Za hpx;clear hpx
   go_wp2_with (first|(go_at_call 173;refine (HP.out _ x (Zo HX.out)).mono ?_;rintro e w9 ⟨rfl,m9,rfl⟩;rw [HPX.out]))
   go_ret;refine ⟨?_,dn_⟩;rw [HI.out];rfl
  |false=>
   have HA1:=Za (show (l.take (k+1)).any p=false by rw [d7z p l k x HX.out,HA.out,hpx];rfl);have HPX:=Za hpx;clear hpx
   go_wp2_with (first|(go_at_call 173;refine (HP.out _ x (Zo HX.out)).mono ?_;rintro e w9 ⟨rfl,m9,rfl⟩;rw [HPX.out]))
   go_roundw
   case rel=>exact ⟨k+1,m+m9,by omega,by go_num,by simp [World.drewN_drewN],HA1⟩
   case measure=>simp [intOf];omega
 ·obtain rfl:k=l.length:=by omega
  have HI:=Za (idxF_none p l (by have:=HA.out;rwa [List.take_length] at this));go_wp2;go_ret;refine ⟨?_,dn_⟩;rw [HI.out];rfl
theorem con_May11.calls (p : Int -> Bool) (q0 : Value) (A : Option Addr) (c : Nat) (l : List Int) (W : World) (hr : Kd.C (Kd.int .i64) W A l.length l) (hl : l.length <= 1000000)
  (hp: ∀(m:Nat) (x:Int),x∈l->Calls Tryz.prog 173 #[.int .i64 x,q0] (W.drewN m) fun e w'=>e= .returned (.bool (p x))/\Drawn0 (W.drewN m) w'):
  Calls Tryz.prog 172 #[.slice A l.length c, .func (.func 173) #[] #[q0]] W fun e w'=>e= .returned (.bool (l.any p))/\Drawn0 W w':=by
 have HC:=Za (idx_May11.calls p q0 A c l W hr hl hp);have HA:=Za (idxF_any p l);clear hr hp;obtain ⟨z,hz⟩: ∃z,idxF p l=z:=⟨_,rfl⟩;rw [hz] at HC HA;rw [<-HA.out];clear hz HA;go_enter Tryz.func172,Tryz.ntmps172
 go_wp2_with (first|(go_at_call 189;refine HC.out.mono ?_;rintro e w9 ⟨rfl,m9,rfl⟩))
 go_ret;exact ⟨rfl,dn_⟩
theorem idx_May1.calls (p : List Int -> Bool) (q0 q1 : Value) (A : Option Addr) (c : Nat) (l : List (List Int)) (W : World) (hr : Kd.C (Kd.slice 3 (Kd.int .i64)) W A l.length l) (hl : l.length <= 1000000)
  (hp: ∀(m:Nat) (x:List Int) (A':Option Addr) (c':Nat),x∈l->x.length<=c'->Kd.C (Kd.int .i64) W A' x.length x->Calls Tryz.prog 171 #[.slice A' x.length c',q0,q1] (W.drewN m) fun e w'=>e= .returned (.bool (p x))/\Drawn0 (W.drewN m) w'):
  Calls Tryz.prog 175 #[.slice A l.length c, .func (.func 171) #[] #[q0,q1]] W fun e w'=>e= .returned (.int .i64 (idxF p l))/\Drawn0 W w':=by
 have HR:=Za hr;have HP:=Za hp;clear hr hp;go_enter Tryz.func175,Tryz.ntmps175;go_wp2
 go_loopw [8] (fun i wr=> ∃k m:Nat,k<=l.length/\i= .int .i64 k/\wr=W.drewN m/\Aside0 ((l.take k).any p=false)) (fun i _=>l.length - (intOf i).toNat)
 case atStart=>exact ⟨0,0,Nat.zero_le _,rfl,rfl,⟨rfl⟩⟩
 obtain ⟨k,m,hk,rfl,rfl,HA⟩:=hrel;by_cases hlt:k<l.length
 ·obtain ⟨x,hx⟩: ∃x,l[k]?=some x:=⟨_,Zf hlt⟩;obtain ⟨ad,A',c',rfl,hcell,hle,hC⟩:=b9z HR.out k x hx;have HC:=Za hC;have HLE:=Za hle;clear hC hle;have HX:=Za hx;clear hx
  cases hpx:p x with
  |true=>
   have HI:=Za (idxF_at p l k x HX.out HA.out hpx);have HPX:=Za hpx;clear hpx
   go_wp2_with (first|(go_at_call 171;refine (HP.out _ x A' c' (Zo HX.out) HLE.out HC.out).mono ?_;rintro e w9 ⟨rfl,m9,rfl⟩;rw [HPX.out]))
   go_ret;refine ⟨?_,dn_⟩;rw [HI.out];rfl
  |false=>
   have HA1:=Za (show (l.take (k+1)).any p=false by rw [d7z p l k x HX.out,HA.out,hpx];rfl);have HPX:=Za hpx;clear hpx
   go_wp2_with (first|(go_at_call 171;refine (HP.out _ x A' c' (Zo HX.out) HLE.out HC.out).mono ?_;rintro e w9 ⟨rfl,m9,rfl⟩;rw [HPX.out]))
   go_roundw
   case rel=>exact ⟨k+1,m+m9,by omega,by go_num,by simp [World.drewN_drewN],HA1⟩
   case measure=>simp [intOf];omega
 ·obtain rfl:k=l.length:=by omega
  have HI:=Za (idxF_none p l (by have:=HA.out;rwa [List.take_length] at this));go_wp2;go_ret;refine ⟨?_,dn_⟩;rw [HI.out];rfl
theorem con_May1.calls (p : List Int -> Bool) (q0 q1 : Value) (A : Option Addr) (c : Nat) (l : List (List Int)) (W : World) (hr : Kd.C (Kd.slice 3 (Kd.int .i64)) W A l.length l) (hl : l.length <= 1000000)
  (hp: ∀(m:Nat) (x:List Int) (A':Option Addr) (c':Nat),x∈l->x.length<=c'->Kd.C (Kd.int .i64) W A' x.length x->Calls Tryz.prog 171 #[.slice A' x.length c',q0,q1] (W.drewN m) fun e w'=>e= .returned (.bool (p x))/\Drawn0 (W.drewN m) w'):
  Calls Tryz.prog 170 #[.slice A l.length c, .func (.func 171) #[] #[q0,q1]] W fun e w'=>e= .returned (.bool (l.any p))/\Drawn0 W w':=by
 have HC:=Za (idx_May1.calls p q0 q1 A c l W hr hl hp);have HA:=Za (idxF_any p l);clear hr hp;obtain ⟨z,hz⟩: ∃z,idxF p l=z:=⟨_,rfl⟩;rw [hz] at HC HA;rw [<-HA.out];clear hz HA;go_enter Tryz.func170,Tryz.ntmps170
 go_wp2_with (first|(go_at_call 175;refine HC.out.mono ?_;rintro e w9 ⟨rfl,m9,rfl⟩))
 go_ret;exact ⟨rfl,dn_⟩
theorem idx_reduce2.calls (p : List Int -> Bool) (q0 : Value) (A : Option Addr) (c : Nat) (l : List (List Int)) (W : World) (hr : Kd.C (Kd.slice 3 (Kd.int .i64)) W A l.length l) (hl : l.length <= 1000000)
  (hp: ∀(m:Nat) (x:List Int) (A':Option Addr) (c':Nat),x∈l->x.length<=c'->Kd.C (Kd.int .i64) W A' x.length x->Calls Tryz.prog 176 #[.slice A' x.length c',q0] (W.drewN m) fun e w'=>e= .returned (.bool (p x))/\Drawn0 (W.drewN m) w'):
  Calls Tryz.prog 175 #[.slice A l.length c, .func (.func 176) #[] #[q0]] W fun e w'=>e= .returned (.int .i64 (idxF p l))/\Drawn0 W w':=by
 have HR:=Za hr;have HP:=Za hp;clear hr hp;go_enter Tryz.func175,Tryz.ntmps175;go_wp2
 go_loopw [8] (fun i wr=> ∃k m:Nat,k<=l.length/\i= .int .i64 k/\wr=W.drewN m/\Aside0 ((l.take k).any p=false)) (fun i _=>l.length - (intOf i).toNat)
 case atStart=>exact ⟨0,0,Nat.zero_le _,rfl,rfl,⟨rfl⟩⟩
 obtain ⟨k,m,hk,rfl,rfl,HA⟩:=hrel;by_cases hlt:k<l.length
 ·obtain ⟨x,hx⟩: ∃x,l[k]?=some x:=⟨_,Zf hlt⟩;obtain ⟨ad,A',c',rfl,hcell,hle,hC⟩:=b9z HR.out k x hx;have HC:=Za hC;have HLE:=Za hle;clear hC hle;have HX:=Za hx;clear hx
  cases hpx:p x with
  |true=>
   have HI:=Za (idxF_at p l k x HX.out HA.out hpx);have HPX:=Za hpx;clear hpx
   go_wp2_with (first|(go_at_call 176;refine (HP.out _ x A' c' (Zo HX.out) HLE.out HC.out).mono ?_;rintro e w9 ⟨rfl,m9,rfl⟩;rw [HPX.out]))
   go_ret;refine ⟨?_,dn_⟩;rw [HI.out];rfl
  |false=>
   have HA1:=Za (show (l.take (k+1)).any p=false by rw [d7z p l k x HX.out,HA.out,hpx];rfl);have HPX:=Za hpx;clear hpx
   go_wp2_with (first|(go_at_call 176;refine (HP.out _ x A' c' (Zo HX.out) HLE.out HC.out).mono ?_;rintro e w9 ⟨rfl,m9,rfl⟩;rw [HPX.out]))
   go_roundw
   case rel=>exact ⟨k+1,m+m9,by omega,by go_num,by simp [World.drewN_drewN],HA1⟩
   case measure=>simp [intOf];omega
 ·obtain rfl:k=l.length:=by omega
  have HI:=Za (idxF_none p l (by have:=HA.out;rwa [List.take_length] at this));go_wp2;go_ret;refine ⟨?_,dn_⟩;rw [HI.out];rfl
theorem d1z (ad:Addr):ad.add 0=ad:=by unfold Addr.add;split<;>simp_all
structure MayOk (wb:Int) (rows:List (List Int)) (cols:Nat):Prop where
 n1:1<=rows.length
 n2:rows.length<=20
 c1:1<=cols
 c2:cols<=20
 each: ∀row,row∈rows->row.length=cols/\ ∀x,x∈row->0<=x/\x<fsize wb
theorem may11.calls (g fb : Nat) (S : Nat -> Prop) (wb p x : Int) (W : World) (hw : wb = 8 \/ wb = 16) (hF : Fd W g wb p S) (hb : W.cell? ⟨fb, 0, none⟩ = some (.pointer (some ⟨g, 0, none⟩))) (hx : 0 <= x /\ x < fsize wb) :
  Calls Tryz.prog 173 #[.int .i64 x, .pointer (some ⟨fb,0,none⟩)] W fun e w'=>e= .returned (.bool false)/\Drawn0 W w':=by
 have HF:=Za hF;have HW:=Za hw;have h1:decide (x<0)=false:=Ze (by omega);have h2:decide (fsize wb<=x)=false:=Ze (by omega);clear hF hw hx;go_enter Tryz.func173,Tryz.ntmps173
 go_wp2_with (first|(go_at_call 150;refine (egz.calls g wb p S _ HF.out HW.out).mono ?_;rintro e w9 ⟨rfl,m9,rfl⟩))
 go_ret;exact ⟨rfl,dn_⟩
theorem may1.calls (g fb ab : Nat) (S : Nat -> Prop) (wb p : Int) (A A0 A' : Option Addr) (n0 c0 c' : Nat) (cols : Nat) (rows : List (List Int)) (x : List Int) (W : World) (hw : wb = 8 \/ wb = 16) (hM : MayOk wb rows cols) (hF : Fd W g wb p S) (hb : W.cell? ⟨fb, 0, none⟩ = some (.pointer (some ⟨g, 0, none⟩)))
  (ha:W.cell? ⟨ab,0,none⟩=some (.slice A rows.length c0)) (hC:Kd.C (Kd.slice 3 (Kd.int .i64)) W A rows.length rows) (hx:x∈rows) (hX:Kd.C (Kd.int .i64) W A' x.length x):
  Calls Tryz.prog 171 #[.slice A' x.length c', .pointer (some ⟨ab,0,none⟩), .pointer (some ⟨fb,0,none⟩)] W fun e w'=>e= .returned (.bool false)/\Drawn0 W w':=by
 obtain ⟨r0,hr0⟩: ∃r,rows[0]?=some r:=⟨_,Zf (by have:=hM.n1;omega)⟩;obtain ⟨ad,A1,c1,rfl,hcell,hle,hC0⟩:=b9z hC 0 r0 hr0;have l0:=(hM.each r0 (Zo hr0)).1;have lx:=(hM.each x hx).1;have hc2:=hM.c2;have HC:=Za (con_May11.calls (fun _=>false) (.pointer (some ⟨fb,0,none⟩)) A' c' x W hX (by omega) (fun m y hy=>may11.calls g fb S wb p y _ hw (hF.drewN m) hb ((hM.each x hx).2 y hy)));have hany:x.any (fun _=>false)=false:=by simp
 rw [hany] at HC;rw [l0] at hcell;rw [lx] at HC;rw [lx];have n1:(0:Int)<(rows.length:Int):=by have:=hM.n1;omega
 have hcell':W.cell? ad=some (.slice A1 cols c1):=by rwa [d1z] at hcell
 have hself:((cols:Int) !=(cols:Int))=false:=by simp
 have hmf: ∀(fn:Fn) (first cap:Array Value) (w:World),(Instr.makeFunc fn first cap).run Tryz.prog w= .ok (.func fn first cap) w:=fun _ _ _ _=>rfl
 generalize rows.length=nr at ha n1;clear hM hF hC hx hX hr0 hC0 l0 lx hc2 hany hle hcell;go_enter Tryz.func171,Tryz.ntmps171
 go_wp2_with (first|(go_at_call 172;refine HC.out.mono ?_;rintro e w9 ⟨rfl,m9,rfl⟩))
 go_ret;exact ⟨rfl,dn_⟩
theorem eOz.ok (g : Nat) (S : Nat -> Prop) (wb p : Int) (A : Option Addr) (c cols : Nat) (rows : List (List Int)) (W : World) (hw : wb = 8 \/ wb = 16) (hM : MayOk wb rows cols) (hF : Fd W g wb p S) (hC : Kd.C (Kd.slice 3 (Kd.int .i64)) W A rows.length rows) :
  Calls Tryz.prog 138 #[.pointer (some ⟨g,0,none⟩), .slice A rows.length c] W fun e w'=>e= .returned (.bool true)/\Below W.heap.size W w':=by
 have hb1:Below W.heap.size W ((W.alloc (.cells #[.pointer (some ⟨g,0,none⟩)] 72)).alloc (.cells #[.slice A rows.length c] 69)):=aoz (aoz (Zw _ _) _) _;have hF1:=hF.below hb1;have hC1:=Kd.aMz hC hb1;have hc1:((W.alloc (.cells #[.pointer (some ⟨g,0,none⟩)] 72)).alloc (.cells #[.slice A rows.length c] 69)).cell? ⟨W.heap.size,0,none⟩=some (.pointer (some ⟨g,0,none⟩)):=(aez (bAz (dvz W _) _) 0).trans rfl;have hc2:((W.alloc (.cells #[.pointer (some ⟨g,0,none⟩)] 72)).alloc (.cells #[.slice A rows.length c] 69)).cell? ⟨W.heap.size+1,0,none⟩=some (.slice A rows.length c):=(aez (cxz _ _ _ (by simp)) 0).trans rfl;have hany:rows.any (fun _=>false)=false:=by simp
 have HC:=Za (fun (m0:Nat)=>con_May1.calls (fun _=>false) (.pointer (some ⟨W.heap.size+1,0,none⟩)) (.pointer (some ⟨W.heap.size,0,none⟩)) A c rows _ (Kd.bzz hC1 m0) (by have:=hM.n2;omega) (fun m x A' c' hx hxc hX=>may1.calls g W.heap.size (W.heap.size+1) S wb p A A A' rows.length c c' cols rows x _ hw hM ((hF1.drewN m0).drewN m) hc1 hc2 (Kd.bzz (Kd.bzz hC1 m0) m) hx (Kd.bzz hX m)));rw [hany] at HC;obtain ⟨r0,hr0⟩: ∃r,rows[0]?=some r:=⟨_,Zf (by have:=hM.n1;omega)⟩;obtain ⟨ad,A1,c1,rfl,hcell,hle,hC0⟩:=b9z hC 0 r0 hr0;have l0:=(hM.each r0 (Zo hr0)).1;rw [l0] at hcell;have hcell':W.cell? ad=some (.slice A1 cols c1):=by rwa [d1z] at hcell
 have hcell2:=bCz hb1 hcell';have hw1:bWz.f (rows.length:Int)=some true:=by unfold bWz.f;rw [Ya (by have:=hM.n1;omega),Zd (by have:=hM.n2;omega)]
 have hw2:bWz.f (cols:Int)=some true:=by unfold bWz.f;rw [Ya (by have:=hM.c1;omega),Zd (by have:=hM.c2;omega)]
 have n1:(0:Int)<(rows.length:Int):=by have:=hM.n1;omega
 have hmf: ∀(fn:Fn) (first cap:Array Value) (w:World),(Instr.makeFunc fn first cap).run Tryz.prog w= .ok (.func fn first cap) w:=fun _ _ _ _=>rfl
 have HB:=Za hb1;have H1:=Za hw1;have H2:=Za hw2
 generalize rows.length=nr at *
 clear hM hF hC hF1 hC1 hr0 hC0 l0 hany hle hcell hcell' hw1 hw2 hb1;go_enter Tryz.func138,Tryz.ntmps138
 go_wp2_with (first|(go_at_call_of 139 (Value.int .i64 (nr:Int));refine (bWz.calls _ _ _ H1.out).mono ?_;rintro e w9 ⟨rfl,m9,rfl⟩)|(go_at_call 139;refine (bWz.calls _ _ _ H2.out).mono ?_;rintro e w9 ⟨rfl,m8,rfl⟩)|(go_at_call 170;refine (HC.out _).mono ?_;rintro e w9 ⟨rfl,m7,rfl⟩))
 go_ret;exact ⟨rfl,by repeat (first|exact HB.out|apply aZz)⟩
theorem reads_C {k:IntKind} {W:World} {A:Option Addr} {l:List Int} (h:Kd.C (Kd.int k) W A l.length l):ReadsInt W k A l.length l:=by
 refine ⟨rfl,h.2.1,fun hn=> ?_⟩;obtain ⟨ad,hA,_⟩:=h.2.2 hn;refine ⟨ad,hA,fun j hj=> ?_⟩;obtain ⟨ad',hA',hc⟩:=cuz h j l[j] (Zf hj);rw [hA] at hA';cases hA'
 rw [hc,Zm,Zf hj];rfl
theorem cXz {k:IntKind} {e:Nat} {W:World} {base:Nat} {v:Value} {xs:List Int} (h:W.ownsRow base e 1 v xs.length (nums k xs)):Kd.R (Kd.int k) e W base (fun _=>True) v xs:=
 ⟨fun _ _=>trivial,nums k xs,h,by rw [nums_length];exact (Nat.mul_one _).symm,fun j p hj=>by
  obtain ⟨hlt,rfl⟩:=Zk hj;show ((nums k xs).drop (j*1)).take 1= [Value.int k xs[j]];rw [Nat.mul_one,List.drop_eq_getElem_cons (by simp [nums];exact hlt)]
  simp [nums]⟩
theorem A_none {α:Type} {d:Kd α} {W:World} {n:Nat} {xs:List α} (h:Kd.C d W none n xs):n=0:=by
 rcases Nat.eq_zero_or_pos n with h0|h0
 ·exact h0
 ·obtain ⟨ad,e,_⟩:=h.2.2 h0;cases e
theorem clone_i.calls (A : Option Addr) (c : Nat) (l : List Int) (W : World) (hC : Kd.C (Kd.int .i64) W A l.length l) (hl : l.length <= 1000000) :
  Calls Tryz.prog 141 #[.slice A l.length c] W fun e w'=> ∃v,e= .returned v/\Kd.R (Kd.int .i64) 3 w' W.heap.size (fun _=>True) v l/\Below W.heap.size W w':=by
 cases A with
 |none=>
  obtain rfl:l= [] :=List.eq_nil_of_length_eq_zero (A_none hC);have hnil:=fun (w:World)=>Lib.run_eql_slice_nil (P:=Tryz.prog) w 57 3 none 0 c 0 0 Tryz.underlying57
  go_enter Tryz.func141,Tryz.ntmps141;go_wp2;go_ret;exact ⟨_,rfl,Kd.R_nil _ _ _ _ _,Zw _ _⟩
 |some ad=>
  have HR:=Za (reads_C hC);clear hC;have hnil:=fun (w:World)=>Lib.run_eql_slice_nil (P:=Tryz.prog) w 57 3 (some ad) l.length c 0 0 Tryz.underlying57
  have HO:=Za (World.ownsRow_lit (base:=W.heap.size) (e:=3) (size:=1) W #[] 0 (Zv _) (by decide) rfl);have HB:=Za (aoz (Zw W.heap.size W) (.cells #[] 3));go_enter Tryz.func141,Tryz.ntmps141
  go_wp2_with ((with_reducible refine anz (b:= .append) (xs:= #[.tmp 5, .tmp 6]) rfl ?_);at_builtin;refine cVz (w0:=W) W.heap.size rfl (.tmp 5) (.tmp 6) 57 3 .i64 8 rfl Tryz.underlying57 kr_ (by decide) _ [] l (some ad) l.length c rfl rfl ?aO ?aR ?aB ?aS ?aL ?_;(case aO=>exact HO.out);(case aR=>exact HR.out.below (aoz (Zw _ _) _));(case aB=>exact HB.out);(case aS=>simp);(case aL=>simp;omega);intro v1 w1 ho1 hb1 hg1 hat1;have HO1:=Za ho1;have HB1:=Za hb1;clear ho1 hb1 hg1 hat1)
  go_ret;exact ⟨_,rfl,cXz HO1.out,HB1.out⟩
theorem own_cut0 {W:World} {base e size g n c:Nat} {xs:List Value} (h:W.ownsRow base e size (.slice (some ⟨g,0,none⟩) n c) n xs):W.ownsRow base e size (.slice (some ⟨g,0,none⟩) 0 c) 0 [] :=by
 obtain ⟨h1,h2|⟨g',cap,cur,he,hb,hh,h3,h4,h5,h6⟩⟩:=h
 ·cases h2.1
 ·injection he with e1 e2 e3
  injection e1 with e1
  injection e1 with e1
  subst e1;subst e3;exact ⟨by simp, .inr ⟨g,c,cur,rfl,hb,hh,Nat.zero_le _,h4,h5,by simp⟩⟩
theorem grow_i.calls (n : Nat) (W : World) (hn : n <= 1000000) :
  Calls Tryz.prog 182 #[.slice none 0 0, .int .i64 (n:Int)] W fun e w'=> ∃v,e= .returned v/\w'.ownsRow W.heap.size 3 1 v 0 [] /\Below W.heap.size W w':=by
 have n0:decide ((n:Int)<0)=false:=Ze (by omega);by_cases h0:n=0
 ·subst h0;go_enter Tryz.func182,Tryz.ntmps182;go_wp2;go_ret;exact ⟨_,rfl,own_nil _ _ _ _,Zw _ _⟩
 ·have p0:(0:Int)<(n:Int):=by omega
  have p1: ¬((n:Int)<0):=by omega
  have HB:=Za (Zw W.heap.size W);go_enter Tryz.func182,Tryz.ntmps182
  go_wp2_with ((with_reducible refine anz (b:= .append) (xs:= #[.tmp 20, .tmp 21]) rfl ?_);at_builtin;refine Kd.eJz (Kd.int .i64) (w0:=W) W.heap.size rfl (.tmp 20) (.tmp 21) 57 3 3 (.int .i64 0) 8 rfl Tryz.underlying57 Tryz.underlying3 kr_ rfl (by decide) (by decide) _ [] 0 (n:Int) (fun _=>True) rfl rfl ?aZ (fun _ _=>trivial) (Kd.R_nil _ _ _ _ _) ?a0 HB.out (Zv _) ?aL ?_;(case aZ=>exact rfl);(case a0=>omega);(case aL=>simp;omega);intro v1 w1 ho1 hb1 hg1 hat1;obtain ⟨g,cc,rfl, -, -, -⟩:=Kd.dBz ho1 (by simp;omega);obtain ⟨inner,hown⟩:=Kd.R_own ho1;have HO1:=Za (own_cut0 hown);have HB1:=Za hb1;have hcc:0<=cc:=Nat.zero_le _;clear ho1 hb1 hg1 hat1 hown)
  go_ret;exact ⟨_,rfl,HO1.out,HB1.out⟩
theorem grow_b.calls (n : Nat) (W : World) (hn : n <= 1000000) :
  Calls Tryz.prog 169 #[.slice none 0 0, .int .i64 (n:Int)] W fun e w'=> ∃v,e= .returned v/\w'.ownsRow W.heap.size 5 1 v 0 [] /\Below W.heap.size W w':=by
 have n0:decide ((n:Int)<0)=false:=Ze (by omega);by_cases h0:n=0
 ·subst h0;go_enter Tryz.func169,Tryz.ntmps169;go_wp2;go_ret;exact ⟨_,rfl,own_nil _ _ _ _,Zw _ _⟩
 ·have p0:(0:Int)<(n:Int):=by omega
  have p1: ¬((n:Int)<0):=by omega
  have HB:=Za (Zw W.heap.size W);go_enter Tryz.func169,Tryz.ntmps169
  go_wp2_with ((with_reducible refine anz (b:= .append) (xs:= #[.tmp 20, .tmp 21]) rfl ?_);at_builtin;refine Kd.eJz (Kd.int .u8) (w0:=W) W.heap.size rfl (.tmp 20) (.tmp 21) 34 3 5 (.int .u8 0) 1 rfl Tryz.underlying34 Tryz.underlying3 kr_ rfl (by decide) (by decide) _ [] 0 (n:Int) (fun _=>True) rfl rfl ?aZ (fun _ _=>trivial) (Kd.R_nil _ _ _ _ _) ?a0 HB.out (Zv _) ?aL ?_;(case aZ=>exact rfl);(case a0=>omega);(case aL=>simp;omega);intro v1 w1 ho1 hb1 hg1 hat1;obtain ⟨g,cc,rfl, -, -, -⟩:=Kd.dBz ho1 (by simp;omega);obtain ⟨inner,hown⟩:=Kd.R_own ho1;have HO1:=Za (own_cut0 hown);have HB1:=Za hb1;have hcc:0<=cc:=Nat.zero_le _;clear ho1 hb1 hg1 hat1 hown)
  go_ret;exact ⟨_,rfl,HO1.out,HB1.out⟩
theorem ezz (rows:List (List Int)) (k:Nat) (x:List Int) (hx:rows[k]?=some x):(rows.take (k+1)).flatten=(rows.take k).flatten++x:=by
 rw [List.take_add_one,hx];simp
theorem ehz (rows:List (List Int)) (k:Nat):(rows.take k).flatten.length<=rows.flatten.length:=by
 conv=>rhs;rw [<-List.take_append_drop k rows,List.flatten_append,List.length_append]
 omega
theorem concat_i.calls (A : Option Addr) (c : Nat) (rows : List (List Int)) (W : World) (hC : Kd.C (Kd.slice 3 (Kd.int .i64)) W A rows.length rows) (hr : rows.length <= 1000000) (hl : rows.flatten.length <= 1000000) :
  Calls Tryz.prog 159 #[.slice A rows.length c] W fun e w'=> ∃v,e= .returned v/\Kd.R (Kd.int .i64) 3 w' W.heap.size (fun _=>True) v rows.flatten/\Below W.heap.size W w':=by
 have HC:=Za hC;clear hC;go_enter Tryz.func159,Tryz.ntmps159;go_wp2
 go_loop [3,11] (fun s i=> ∃k z:Nat,k<=rows.length/\s= .int .i64 (z:Int)/\i= .int .i64 (k:Int)/\Aside0 (z=(rows.take k).flatten.length)) (fun _ i=>rows.length - (intOf i).toNat)
 case atStart=>exact ⟨0,0,Nat.zero_le _,rfl,rfl,⟨rfl⟩⟩
 obtain ⟨k,z,hk,rfl,rfl,HZ⟩:=hrel;have hz:z<=1000000:=by have:=ehz rows k;have:=HZ.out;omega
 by_cases hlt:k<rows.length
 ·obtain ⟨x,hx⟩: ∃x,rows[k]?=some x:=⟨_,Zf hlt⟩;obtain ⟨ad,A',c',rfl,hcell,hle,hCx⟩:=b9z HC.out k x hx;have HZ1:=Za (show z+x.length=(rows.take (k+1)).flatten.length by rw [ezz rows k x hx,List.length_append, <-HZ.out]);have hz1:z+x.length<=1000000:=by have:=ehz rows (k+1);have:=HZ1.out;omega
  have hn0:decide ((z:Int)+(x.length:Int)<0)=false:=Ze (by omega);have hn1: ¬((z:Int)+(x.length:Int)<0):=by omega
  clear hx hCx hle;go_wp2
  go_round
  case rel=>exact ⟨k+1,z+x.length,by omega,by go_num,by go_num,HZ1⟩
  case measure=>simp [intOf];omega
 ·obtain rfl:k=rows.length:=by omega
  clear hk hlt;have HG:=Za (grow_i.calls z W hz)
  go_wp2_with (first|(go_at_call 182;refine HG.out.mono ?_;rintro e w1 ⟨v,rfl,hv,hB⟩))
  have HV:=Za hv;have HB:=Za hB;clear hv hB HG
  go_loopw [6,27] (fun v i wr=> ∃k:Nat,k<=rows.length/\i= .int .i64 (k:Int)/\Aside0 (wr.ownsRow W.heap.size 3 1 v (rows.take k).flatten.length (nums .i64 (rows.take k).flatten))/\Aside0 (Below W.heap.size W wr)) (fun _ i _=>rows.length - (intOf i).toNat)
  case atStart=>exact ⟨0,Nat.zero_le _,rfl,HV,HB⟩
  clear HV HB;obtain ⟨k,hk,rfl,HV,HB⟩:=hrel;by_cases hlt:k<rows.length
  ·obtain ⟨x,hx⟩: ∃x,rows[k]?=some x:=⟨_,Zf hlt⟩;obtain ⟨ad,A',c',rfl,hcell,hle,hCx⟩:=b9z (Kd.aMz HC.out HB.out) k x hx;have HX:=Za (ezz rows k x hx);have HCX:=Za (reads_C hCx);have HL:=Za (ehz rows (k+1));rw [HX.out,List.length_append] at HL;clear hx hCx hle
   go_wp2_with ((with_reducible refine anz (b:= .append) (xs:= #[.tmp 31, .tmp 32]) rfl ?_);at_builtin;refine cVz (w0:=W) W.heap.size rfl (.tmp 31) (.tmp 32) 57 3 .i64 8 rfl Tryz.underlying57 kr_ (by decide) _ _ x A' x.length c' rfl rfl HV.out HCX.out HB.out HB.out.size ?aL ?_;(case aL=>have:=HL.out;omega);intro v1 w1 ho1 hb1 hg1 hat1;have HV1:=Za ho1;have HB1:=Za hb1;clear ho1 hb1 hg1 hat1)
   go_roundw
   case rel=>exact ⟨k+1,by omega,by go_num,⟨by rw [HX.out];exact HV1.out⟩,HB1⟩
   case measure=>simp [intOf];omega
  ·obtain rfl:k=rows.length:=by omega
   have HF:=Za (cXz HV.out);rw [List.take_length] at HF;go_wp2;go_ret;exact ⟨_,rfl,HF.out,HB.out⟩
theorem concat_b.calls (A : Option Addr) (c : Nat) (rows : List (List Int)) (W : World) (hC : Kd.C (Kd.slice 5 (Kd.int .u8)) W A rows.length rows) (hr : rows.length <= 1000000) (hl : rows.flatten.length <= 1000000) :
  Calls Tryz.prog 135 #[.slice A rows.length c] W fun e w'=> ∃v,e= .returned v/\Kd.R (Kd.int .u8) 5 w' W.heap.size (fun _=>True) v rows.flatten/\Below W.heap.size W w':=by
 have HC:=Za hC;clear hC;go_enter Tryz.func135,Tryz.ntmps135;go_wp2
 go_loop [3,11] (fun s i=> ∃k z:Nat,k<=rows.length/\s= .int .i64 (z:Int)/\i= .int .i64 (k:Int)/\Aside0 (z=(rows.take k).flatten.length)) (fun _ i=>rows.length - (intOf i).toNat)
 case atStart=>exact ⟨0,0,Nat.zero_le _,rfl,rfl,⟨rfl⟩⟩
 obtain ⟨k,z,hk,rfl,rfl,HZ⟩:=hrel;have hz:z<=1000000:=by have:=ehz rows k;have:=HZ.out;omega
 by_cases hlt:k<rows.length
 ·obtain ⟨x,hx⟩: ∃x,rows[k]?=some x:=⟨_,Zf hlt⟩;obtain ⟨ad,A',c',rfl,hcell,hle,hCx⟩:=b9z HC.out k x hx;have HZ1:=Za (show z+x.length=(rows.take (k+1)).flatten.length by rw [ezz rows k x hx,List.length_append, <-HZ.out]);have hz1:z+x.length<=1000000:=by have:=ehz rows (k+1);have:=HZ1.out;omega
  have hn0:decide ((z:Int)+(x.length:Int)<0)=false:=Ze (by omega);have hn1: ¬((z:Int)+(x.length:Int)<0):=by omega
  clear hx hCx hle;go_wp2
  go_round
  case rel=>exact ⟨k+1,z+x.length,by omega,by go_num,by go_num,HZ1⟩
  case measure=>simp [intOf];omega
 ·obtain rfl:k=rows.length:=by omega
  clear hk hlt;have HG:=Za (grow_b.calls z W hz)
  go_wp2_with (first|(go_at_call 169;refine HG.out.mono ?_;rintro e w1 ⟨v,rfl,hv,hB⟩))
  have HV:=Za hv;have HB:=Za hB;clear hv hB HG
  go_loopw [6,27] (fun v i wr=> ∃k:Nat,k<=rows.length/\i= .int .i64 (k:Int)/\Aside0 (wr.ownsRow W.heap.size 5 1 v (rows.take k).flatten.length (nums .u8 (rows.take k).flatten))/\Aside0 (Below W.heap.size W wr)) (fun _ i _=>rows.length - (intOf i).toNat)
  case atStart=>exact ⟨0,Nat.zero_le _,rfl,HV,HB⟩
  clear HV HB;obtain ⟨k,hk,rfl,HV,HB⟩:=hrel;by_cases hlt:k<rows.length
  ·obtain ⟨x,hx⟩: ∃x,rows[k]?=some x:=⟨_,Zf hlt⟩;obtain ⟨ad,A',c',rfl,hcell,hle,hCx⟩:=b9z (Kd.aMz HC.out HB.out) k x hx;have HX:=Za (ezz rows k x hx);have HCX:=Za (reads_C hCx);have HL:=Za (ehz rows (k+1));rw [HX.out,List.length_append] at HL;clear hx hCx hle
   go_wp2_with ((with_reducible refine anz (b:= .append) (xs:= #[.tmp 31, .tmp 32]) rfl ?_);at_builtin;refine cVz (w0:=W) W.heap.size rfl (.tmp 31) (.tmp 32) 34 5 .u8 1 rfl Tryz.underlying34 kr_ (by decide) _ _ x A' x.length c' rfl rfl HV.out HCX.out HB.out HB.out.size ?aL ?_;(case aL=>have:=HL.out;omega);intro v1 w1 ho1 hb1 hg1 hat1;have HV1:=Za ho1;have HB1:=Za hb1;clear ho1 hb1 hg1 hat1)
   go_roundw
   case rel=>exact ⟨k+1,by omega,by go_num,⟨by rw [HX.out];exact HV1.out⟩,HB1⟩
   case measure=>simp [intOf];omega
  ·obtain rfl:k=rows.length:=by omega
   have HF:=Za (cXz HV.out);rw [List.take_length] at HF;go_wp2;go_ret;exact ⟨_,rfl,HF.out,HB.out⟩
theorem square.ok (g : Nat) (S : Nat -> Prop) (wb p : Int) (A : Option Addr) (c : Nat) (rows : List (List Int)) (W : World) (hw : wb = 8 \/ wb = 16) (hM : MayOk wb rows rows.length) (hF : Fd W g wb p S) (hC : Kd.C (Kd.slice 3 (Kd.int .i64)) W A rows.length rows) :
  Calls Tryz.prog 142 #[.pointer (some ⟨g,0,none⟩), .slice A rows.length c] W fun e w'=>e= .returned (.bool true)/\Below W.heap.size W w':=by
 have HM:=Za (eOz.ok g S wb p A c rows.length rows W hw hM hF hC);obtain ⟨r0,hr0⟩: ∃r,rows[0]?=some r:=⟨_,Zf (by have:=hM.n1;omega)⟩;obtain ⟨ad,A1,c1,rfl,hcell,hle,hC0⟩:=b9z hC 0 r0 hr0;have l0:=(hM.each r0 (Zo hr0)).1;rw [l0,d1z] at hcell;have n1:(0:Int)<(rows.length:Int):=by have:=hM.n1;omega
 generalize rows.length=nr at *
 have hself:((nr:Int)==(nr:Int))=true:=by simp
 clear hM hF hC hr0 hC0 l0 hle;go_enter Tryz.func142,Tryz.ntmps142
 go_wp2_with (first|(go_at_call 138;refine HM.out.mono ?_;rintro e w1 ⟨rfl,hB⟩;have hcell1:=bCz hB hcell;have HB:=Za hB;clear hB))
 go_ret;exact ⟨rfl,HB.out⟩
abbrev dM (e:Nat) (k:IntKind):Kd (List Int):=Kd.slice e (Kd.int k)
theorem S_fresh {e t : Nat} {k : IntKind} {wr w1 : World} {B : Nat} {v u : Value} {xs : List (List Int)} {row : List Int} (HO : Kd.S (dM e k) t wr B (fun _ => True) v xs) (hb : Below wr.heap.size wr w1) (hB : B <= wr.heap.size) (hrow : Kd.R (Kd.int k) e w1 wr.heap.size (fun _ => True) u row) :
  Kd.S (dM e k) t w1 B (fun k'=>True/\ ¬wr.heap.size<=k') v xs/\(dM e k).M w1 B (fun k'=>wr.heap.size<=k') row [u] /\(∀k',wr.heap.size<=k'->True/\some k'≠v.ownBlock):=by
 refine ⟨?_,⟨u,rfl,?_⟩,fun k' hk=>⟨trivial,fun e'=> ?_⟩⟩
 ·have h1:=Kd.bEz HO;exact Kd.edz (Kd.cGz h1 (fun k' hk=>⟨trivial,by have:=hk.2.2.1;omega⟩)) hb
 ·exact Kd.bGz (Kd.aQz (Kd.cez hrow) (fun k' hk=>hk.2.1)) hB
 ·have h1:=(Kd.bEz HO);obtain ⟨f,h0, -⟩:=h1;have:=(h0 k' e'.symm).2.2.1;omega
theorem zip_take {α β γ:Type} (f:α->β->γ): ∀(a:List α) (b:List β),List.zipWith f a b=List.zipWith f a (b.take a.length)
 | [],_=>by simp
 |_::_, [] =>by simp
 |x::a,y::b=>by simp [<-zip_take f a b]
theorem C_two {e t : Nat} {k : IntKind} {W : World} {g : Nat} {A B : Option Addr} {x y : List Int} {c d : Nat} (h : W.heap[g]? = some (.cells #[.slice A x.length c, .slice B y.length d] t (0, 0))) (hx : Kd.C (Kd.int k) W A x.length x) (hc : x.length <= c) (hy : Kd.C (Kd.int k) W B y.length y) (hd : y.length <= d) :
  Kd.C (dM e k) W (some ⟨g,0,none⟩) [x,y].length [x,y] :=by
 refine ⟨rfl,by simp,fun _=>⟨_,rfl,fun j p hp=> ?_⟩⟩
 have hadd: ∀j:Nat,(⟨g,0,none⟩:Addr).add (j*(dM e k).sz+0)=⟨g,j,none⟩:=fun j=>by
  show (⟨g,0,none⟩:Addr).add (j*1+0)=_;unfold Addr.add;split<;>simp_all
 match j,hp with
 |0,hp=>
  obtain rfl:x=p:=by simpa using hp
  refine ⟨[.slice A x.length c],rfl,⟨A,c,rfl,hc,hx⟩,fun i u hu=> ?_⟩
  cases i with
  |succ i=>simp at hu
  |zero=>
   obtain rfl:Value.slice A x.length c=u:=by simpa using hu
   rw [hadd 0,aez h 0];rfl
 |1,hp=>
  obtain rfl:y=p:=by simpa using hp
  refine ⟨[.slice B y.length d],rfl,⟨B,d,rfl,hd,hy⟩,fun i u hu=> ?_⟩
  cases i with
  |succ i=>simp at hu
  |zero=>
   obtain rfl:Value.slice B y.length d=u:=by simpa using hu
   rw [hadd 1,aez h 1];rfl
 |j+2,hp=>simp at hp
theorem beside.calls (A B : Option Addr) (c1 c2 n : Nat) (a b : List (List Int)) (W : World) (hA : Kd.C (dM 3 .i64) W A a.length a) (hB : Kd.C (dM 3 .i64) W B b.length b) (hla : a.length <= 1000) (hlb : a.length <= b.length) (hr : ∀ x, x ∈ a -> x.length <= 1000) (hr' : ∀ x, x ∈ b -> x.length <= 1000) :
  Calls Tryz.prog 143 #[.slice A a.length c1, .slice B b.length c2] W fun e w'=> ∃v,e= .returned v/\Kd.S (dM 3 .i64) 57 w' W.heap.size (fun _=>True) v (List.zipWith (· ++ ·) a b)/\Below W.heap.size W w':=by
 have HCA:=Za hA;have HCB:=Za hB;have HRA:=Za hr;have HRB:=Za hr';clear hA hB hr hr';go_enter Tryz.func143,Tryz.ntmps143;go_wp2
 go_loopw [5,10] (fun v i wr=> ∃k:Nat,k<=a.length/\i= .int .i64 (k:Int)/\Aside0 (Kd.S (dM 3 .i64) 57 wr W.heap.size (fun _=>True) v (List.zipWith (· ++ ·) (a.take k) (b.take k)))/\Aside0 (Below W.heap.size W wr)) (fun _ i _=>a.length - (intOf i).toNat)
 case atStart=>exact ⟨0,Nat.zero_le _,rfl,⟨Kd.S_nil _ _ _ _ _⟩,⟨Zw _ _⟩⟩
 obtain ⟨k,hk,rfl,HO,HB⟩:=hrel;by_cases hlt:k<a.length
 ·obtain ⟨x,hx⟩: ∃x,a[k]?=some x:=⟨_,Zf hlt⟩;obtain ⟨y,hy⟩: ∃y,b[k]?=some y:=⟨_,Zf (by omega)⟩;obtain ⟨ad,A',c',rfl,hcell,hle,hCx⟩:=b9z (Kd.aMz HCA.out HB.out) k x hx;obtain ⟨bd,B',d',rfl,hcell2,hle2,hCy⟩:=b9z (Kd.aMz HCB.out HB.out) k y hy
  have HZ:=Za (show List.zipWith (· ++ ·) (a.take (k+1)) (b.take (k+1))=List.zipWith (· ++ ·) (a.take k) (b.take k)++ [x++y] by
   rw [List.take_add_one,List.take_add_one,hx,hy];rw [List.zipWith_append (by simp;omega)]
   rfl)
  have hlz:(List.zipWith (· ++ ·) (a.take k) (b.take k)).length<=1000:=by simp;omega
  have HLZ:=Za hlz;have hblk:(wr.alloc (.cells #[.slice A' x.length c', .slice B' y.length d'] 57)).heap[wr.heap.size]?=some (.cells #[.slice A' x.length c', .slice B' y.length d'] 57 (0,0)):=heap_alloc_new _ _;have HC2:=Za (C_two (e:=3) hblk (Kd.aMz hCx (aoz (Zw _ _) _)) hle (Kd.aMz hCy (aoz (Zw _ _) _)) hle2);have HCC:=Za (concat_i.calls (some ⟨wr.heap.size,0,none⟩) 2 [x,y] _ HC2.out (by simp) (by have:=HRA.out x (Zo hx);have:=HRB.out y (Zo hy);simp;omega));have hltb:k<b.length:=by omega
  clear hx hy hCx hCy hle hle2 hblk hlz
  go_wp2_with fail
  refine HCC.out.mono ?_;rintro e w1 ⟨u,rfl,hu,hb1⟩;rw [show [x,y].flatten=x++y by simp] at hu;obtain ⟨ua,uc,rfl⟩:=Kd.a7z hu;generalize (x++y).length=nn at hu|-;have hsf:=S_fresh (Kd.eez HO.out (.cells #[.slice A' x.length c', .slice B' y.length d'] 57)) hb1 (Zt HB.out.size (by simp)) hu;have HS1:=Za hsf.1;have HM1:=Za hsf.2.1;have HOK:=Za hsf.2.2;have HB1:=Za (HB.out.trans ((dCz (aoz (Zw _ _) _) hb1).mono HB.out.size));have HSZ:=Za hb1.size;clear hu hb1 hsf
  go_wp2_with ((with_reducible refine anz (b:= .append) (xs:= #[.tmp 15, .tmp 23]) rfl ?_);go_must (at_builtin;refine Kd.bPz (dM 3 .i64) (w0:=W) W.heap.size rfl (.tmp 15) (.tmp 23) 69 57 (.slice none 0 0) 24 rfl Tryz.underlying69 kr_ rfl (by decide) (by decide) _ _ (x++y) [.slice ua nn uc] (fun _=>True) (fun k'=>(wr.alloc (.cells #[.slice A' x.length c', .slice B' y.length d'] 57)).heap.size<=k') rfl rfl HM1.out HOK.out (fun _ _=>trivial) HS1.out HB1.out HB1.out.size ?aL ?_;(case aL=>have:=HLZ.out;omega));intro v2 w2 ho2 hb2 hg2 hat2;have HO2:=Za ho2;have HB2:=Za hb2;clear ho2 hb2 hg2 hat2)
  go_roundw
  case rel=>exact ⟨k+1,by omega,by go_num,⟨by rw [HZ.out];exact HO2.out⟩,HB2⟩
  case measure=>simp [intOf];omega
 ·obtain rfl:k=a.length:=by omega
  have HF:=Za HO.out;rw [List.take_length] at HF;go_wp2;go_ret;refine ⟨_,rfl,?_,HB.out⟩;rw [zip_take];exact HF.out
def dotF (wb:Int):List Int->List Int->Int->Int
 |x::a,y::b,s=>dotF wb a b (Go.bits .xor .i64 s (gmul wb x y))
 |_,_,s=>s
theorem dotF_drop (wb:Int) (a b:List Int) (s:Int) (k:Nat) (x y:Int) (hx:a[k]?=some x) (hy:b[k]?=some y):dotF wb (a.drop k) (b.drop k) s=dotF wb (a.drop (k+1)) (b.drop (k+1)) (Go.bits .xor .i64 s (gmul wb x y)):=by
 obtain ⟨h1,rfl⟩:=Zk hx;obtain ⟨h2,rfl⟩:=Zk hy;rw [List.drop_eq_getElem_cons h1,List.drop_eq_getElem_cons h2,dotF]
theorem dotF_end (wb:Int) (a b:List Int) (s:Int):dotF wb (a.drop a.length) b s=s:=by
 rw [List.drop_length];cases b<;>rfl
abbrev NotG (g:Nat):Nat->Prop:=fun k=>k≠g
theorem F_bb {α:Type} {d:Kd α} {W W1:World} {g:Nat} {A:Option Addr} {n:Nat} {xs:List α} (h:Kd.F d W (NotG g) A n xs) (hb:BB W W1 g):Kd.F d W1 (NotG g) A n xs:=Kd.F_keep h hb.keep (fun _ hk=>hk)
theorem matrix_dot.calls (g : Nat) (S : Nat -> Prop) (wb : Int) (A B : Option Addr) (ca cb : Nat) (a b : List Int) (W : World) (hw : wb = 8 \/ wb = 16) (hF : Fd W g wb (fpoly wb) S) (hS : ∀ k, S k -> k < W.heap.size) (hla : a.length <= 1000) (hlb : a.length <= b.length)
  (ha:Kd.F (Kd.int .i64) W (NotG g) A a.length a) (hb:Kd.F (Kd.int .i64) W (NotG g) B b.length b):
  Calls Tryz.prog 185 #[.pointer (some ⟨g,0,none⟩), .slice A a.length ca, .slice B b.length cb] W fun e w'=>e= .returned (.int .i64 (dotF wb a b 0))/\Fd w' g wb (fpoly wb) S/\BB W w' g:=by
 have HF:=Za hF;have HS:=Za hS;have HW:=Za hw;have HA:=Za ha;have HB:=Za hb;obtain ⟨R,hR⟩: ∃R,dotF wb a b 0=R:=⟨_,rfl⟩;rw [hR];have HR:=Za (show dotF wb (a.drop 0) (b.drop 0) 0=R from hR);clear hF hS hw ha hb hR;go_enter Tryz.func185,Tryz.ntmps185;go_wp2
 go_loopw [7,12] (fun s i wr=> ∃(k:Nat) (z:Int),k<=a.length/\s= .int .i64 z/\i= .int .i64 k/\Aside0 (dotF wb (a.drop k) (b.drop k) z=R)/\Aside0 (Fd wr g wb (fpoly wb) S)/\Aside0 (BB W wr g)) (fun _ i _=>a.length - (intOf i).toNat)
 case atStart=>exact ⟨0,0,Nat.zero_le _,rfl,rfl,HR,HF,⟨BB.refl _ _⟩⟩
 clear HR HF;obtain ⟨k,z,hk,rfl,rfl,HR,HF,HBB⟩:=hrel;by_cases hlt:k<a.length
 ·obtain ⟨x,hx⟩: ∃x,a[k]?=some x:=⟨_,Zf hlt⟩;obtain ⟨y,hy⟩: ∃y,b[k]?=some y:=⟨_,Zf (by omega)⟩;obtain ⟨ad,rfl,hc1⟩:=cuz (Kd.F_now (F_bb HA.out HBB.out)) k x hx;obtain ⟨bd,rfl,hc2⟩:=cuz (Kd.F_now (F_bb HB.out HBB.out)) k y hy;have HR1:=Za ((dotF_drop wb a b z k x y hx hy).symm.trans HR.out);have hltb:k<b.length:=by omega
  clear hx hy
  go_wp2_with (first|(go_at_call 103;refine (cAz.calls g S wb x y _ HW.out HF.out (fun k hk=>Zp (HS.out k hk) HBB.out.size)).mono ?_;rintro e w3 ⟨rfl,q1,q2⟩))
  go_roundw
  case rel=>exact ⟨k+1,_,by omega,rfl,by go_num,HR1,⟨q1⟩,⟨HBB.out.trans q2⟩⟩
  case measure=>simp [intOf];omega
 ·obtain rfl:k=a.length:=by omega
  have HE:=Za ((dotF_end wb a (b.drop a.length) z).symm.trans HR.out);go_wp2;go_ret;refine ⟨?_,HF.out,HBB.out⟩;rw [<-HE.out];rfl
theorem append_int_run {W : World} {base : Nat} {v : Value} {xs : List Int} (z : Int) (HO : (Kd.int .i64).R 3 W base (fun _ => True) v xs) (hb : base <= W.heap.size) (hl : xs.length <= 1000) :
  ∃v1 w1,(Builtin.append_ #[57,57] 57 #[v, .slice (some ⟨W.heap.size,0,none⟩) 1 1]).run Tryz.prog (W.alloc (.cells #[.int .i64 z] 3))= .ok v1 w1/\(Kd.int .i64).R 3 w1 base (fun _=>True) v1 (xs++ [z])/\W.grownBy w1 v.ownBlock/\(v1.ownBlock=v.ownBlock\/ ∃b,v1.ownBlock=some b/\W.heap.size<=b):=by
 obtain ⟨h0,inner,hown,hr⟩:=HO;obtain ⟨i0,hi,hz0,hz1,hz2⟩:=info_parts info3;have hcell:(W.alloc (.cells #[.int .i64 z] 3)).heap[W.heap.size]?=some (.cells #[.int .i64 z] 3 (0,0)):=heap_alloc_new _ _
 obtain ⟨v1,w1,hrun,h1,h2, -,h4⟩:=run_append_own_at (P:=Tryz.prog) (w:=W.alloc (.cells #[.int .i64 z] 3)) base 57 57 3 i0 (.int .i64 0) 1 8 Tryz.underlying57 hi hz0 hz1 hz2 rfl (by decide) v xs.length inner (e5z hown (aoz (Zw _ _) _)) ⟨W.heap.size,0,none⟩ 1 1 [.int .i64 z] rfl
  (fun j u hu=>by
   cases j with
   |succ j=>simp at hu
   |zero=>
    obtain rfl:Value.int .i64 z=u:=by simpa using hu
    exact (aez hcell 0).trans rfl) (by simp [Value.oneCell']) (by unfold maxLen;omega) (by omega) (by simp;omega)
 have hgW:W.grownBy w1 v.ownBlock:=(World.grownBy_alloc W _ _).trans h2
 have hat:v1.ownBlock=v.ownBlock\/ ∃b,v1.ownBlock=some b/\W.heap.size<=b:=by
  rcases h4 with h4|h4
  ·exact .inl h4
  ·exact .inr ⟨_,h4,by simp⟩
 exact ⟨v1,w1,hrun,Kd.eKz h0 hr (okp:=fun _=>False) (show (Kd.int .i64).M W base (fun _=>False) z [.int .i64 z] from rfl) (fun _ h=>h.elim) (fun _ _=>trivial) h1 hgW hat,hgW,hat⟩
theorem R_noncells {X Y:World} {row:Option Nat} {base:Nat} {ok:Nat->Prop} {v:Value} {xs:List Int} {e:Nat} (h:(Kd.int .i64).R e X base ok v xs) (hg:X.grownBy Y row) (hr: ∀r,row=some r-> ∃o:Obj,X.heap[r]?=some o/\o.isCells=false):(Kd.int .i64).R e Y base ok v xs:=by
 refine Kd.aQz (Kd.c5z (Kd.cez h) (fun k hk=> ?_)) (fun k hk=>hk.1);obtain ⟨-, -,hlt,q, -,cells,hc⟩:=hk;exact grownBy_keeps_cells hg hr hc rfl
theorem Fd_noncells {X Y:World} {row:Option Nat} {g:Nat} {wb p:Int} {S:Nat->Prop} (h:Fd X g wb p S) (hg:X.grownBy Y row) (hr: ∀r,row=some r-> ∃o:Obj,X.heap[r]?=some o/\o.isCells=false):Fd Y g wb p S:=by
 obtain ⟨h1,h2|⟨h8,hp,a,b,h3,ha,hb,na,nb⟩⟩:=h
 ·exact ⟨h1, .inl ((grownBy_keeps_cells hg hr h2 rfl).trans h2)⟩
 ·exact ⟨h1, .inr ⟨h8,hp,a,b,(grownBy_keeps_cells hg hr h3 rfl).trans h3,(grownBy_keeps_cells hg hr ha rfl).trans ha,(grownBy_keeps_cells hg hr hb rfl).trans hb,na,nb⟩⟩
theorem row_atF {α : Type} {d : Kd α} {e : Nat} {W : World} {ok : Nat -> Prop} {ad : Addr} {rows : List (List α)} (h : Kd.F (Kd.slice e d) W ok (some ad) rows.length rows) (k : Nat) (x : List α) (hx : rows[k]? = some x) :
  ∃A' c',W.cell? (ad.add k)=some (.slice A' x.length c')/\x.length<=c'/\Kd.F d W ok A' x.length x:=by
 have hlt:=(Zk hx).1;obtain ⟨ad',c,hA,hl,hK,hc, -⟩:=Kd.F_get h ([] :List α) (k:Int) (by omega) (by omega);obtain rfl:ad=ad':=Zn hA;rw [Zu,Zm,hx] at hK;obtain ⟨A',c',rfl,hle,hF⟩:=Kd.cEz hK;refine ⟨A',c',?_,hle,hF⟩;have:=hc 0 _ rfl
 simpa [Kd.slice] using this
theorem eoz {P : Program} {fn : Func} {tmps : Array Value} {R : Ending -> World -> Prop} {n : Nat} : ∀ (Ds : List Nat) (w : World), Ds.Nodup -> (∀ D, D ∈ Ds -> w.heap[D]? = some (.deferred (some []))) ->
  (∀w',(∀k,k<w.heap.size->k∉Ds->w'.heap[k]?=w.heap[k]?)->w'.heap.size=w.heap.size->w'.os=w.os->w'.tape=w.tape->w'.output=w.output->LeavesInM Fence.wide n P fn tmps R [] .returning w')->
  LeavesInM Fence.wide n P fn tmps R (Ds.map fun D=> { target:= .collected D,args:= #[] }) .returning w
 | [],w,_,_,h=>h w (fun _ _ _=>rfl) rfl rfl rfl rfl
 |D::Ds,w,hn,hd,h=>by
  have h1:=hd D (List.mem_cons_self ..);have hlt:=(Array.getElem?_eq_some_iff.1 h1).1;refine ⟨by simp, .inl ⟨D,_,rfl,run_takeDeferred h1,?_⟩⟩;have hn':=List.nodup_cons.1 hn;refine eoz Ds _ hn'.2 (fun D' hD'=>(World.putObj_heap_other (fun e=>hn'.1 (by rw [<-e];exact hD'))).trans (hd D' (List.mem_cons_of_mem _ hD'))) (fun w' hk hs h3 h4 h5=> ?_);have hsz:(w.putObj D (.deferred none)).heap.size=w.heap.size:=by simp [World.putObj]
  exact h w' (fun k hk1 hk2=>(hk k (by rw [hsz];exact hk1) (fun e=>hk2 (List.mem_cons_of_mem _ e))).trans (World.putObj_heap_other (fun e=>hk2 (by simp [e])))) (hs.trans hsz) (h3.trans rfl) (h4.trans rfl) (h5.trans rfl)
theorem Fd.cells {W:World} {g:Nat} {wb p:Int} {S:Nat->Prop} (h:Fd W g wb p S): ∃cs,W.heap[g]?=some (.cells cs 172 (0,0)):=by
 obtain ⟨-,h|⟨-, -,a,b,h, -⟩⟩:=h
 ·exact ⟨_,h⟩
 ·exact ⟨_,h⟩
theorem Fd.grow {X Y:World} {g:Nat} {wb p:Int} {S:Nat->Prop} {row:Option Nat} (h:Fd X g wb p S) (hr: ∀k,row=some k->S k) (hg:X.grownBy Y row):Fd Y g wb p (fun k=>S k\/X.heap.size<=k):=
 h.more.move (fun k hk hlt=>hg.block k hlt (fun e=>hk (.inl (hr k e.symm))))
theorem F_block {W:World} {g c t:Nat} {cs:Array Value} {xs:List Int} (hg:W.heap[g]?=some (.cells cs t (0,0))) (ht:3≠t) (hc:W.heap[c]?=some (.cells (nums .i64 xs).toArray 3 (0,0))) (hl:xs.length<=1000):Kd.F (Kd.int .i64) W (NotG g) (some ⟨c,0,none⟩) xs.length xs:=by
 have hne:c≠g:=by
  rintro rfl;rw [hc] at hg;injection hg with hg
  injection hg with _ hg
  exact ht hg
 intro W' hW;have hc':=(hW c hne (a4z hc)).trans hc;refine ⟨rfl,by omega,fun _=>⟨_,rfl,fun j x hx=>⟨[.int .i64 x],rfl,rfl,fun i' u hu=> ?_⟩⟩⟩
 cases i' with
 |succ i'=>simp at hu
 |zero=>
  obtain rfl:Value.int .i64 x=u:=by simpa using hu
  have e:(⟨c,0,none⟩:Addr).add (j*(Kd.int .i64).sz+0)=⟨c,j,none⟩:=by
   show (⟨c,0,none⟩:Addr).add (j*1+0)=_;unfold Addr.add;split<;>simp_all
  rw [e,aez hc' _];simp [nums,hx]
theorem Fd_keepC {X Y:World} {g:Nat} {wb p:Int} {S:Nat->Prop} (h:Fd X g wb p S) (hm: ∀(k:Nat) (o:Obj),X.heap[k]?=some o->o.isCells=true->Y.heap[k]?=X.heap[k]?):Fd Y g wb p S:=by
 obtain ⟨h1,h2|⟨h8,hp,a,b,h3,ha,hb,na,nb⟩⟩:=h
 ·exact ⟨h1, .inl ((hm _ _ h2 rfl).trans h2)⟩
 ·exact ⟨h1, .inr ⟨h8,hp,a,b,(hm _ _ h3 rfl).trans h3,(hm _ _ ha rfl).trans ha,(hm _ _ hb rfl).trans hb,na,nb⟩⟩
theorem S_keepC {X Y:World} {base:Nat} {ok:Nat->Prop} {v:Value} {xs:List (List Int)} {e t:Nat} (h:Kd.S (dM e .i64) t X base ok v xs) (hm: ∀(k:Nat) (o:Obj),X.heap[k]?=some o->o.isCells=true->Y.heap[k]?=X.heap[k]?):Kd.S (dM e .i64) t Y base ok v xs:=by
 refine Kd.cGz (Kd.S_move (Kd.bEz h) (fun k hk=> ?_)) (fun k hk=>hk.1);obtain ⟨-, -,hlt,q, -,cells,hc⟩:=hk;exact hm _ _ hc rfl
def bvz.f (a0:Int):Option (Bool):=if a0>=1 then (some (decide (a0<=20))) else (some false)
theorem bvz.calls (a0 : Int) (r : Bool) (w : World) (h : bvz.f a0 = some r) :
  Calls Tryz.prog 116 #[.int .i64 a0] w fun e w'=>e= .returned (.bool r)/\Drawn0 w w':=by
 have H:=h;clear h;unfold bvz.f at H;by_cases c2:a0>=1
 ·rw [Ya c2] at H;have c2b0:decide (1<=a0)=true:=Zd c2;clear c2;obtain rfl:=Zn H;go_enter Tryz.func116,Tryz.ntmps116;go_wp2;go_ret;exact ⟨sd_,dn_⟩
 ·rw [Yb c2] at H;have c2b0:decide (1<=a0)=false:=Ze c2;clear c2;obtain rfl:=Zn H;go_enter Tryz.func116,Tryz.ntmps116;go_wp2;go_ret;exact ⟨sd_,dn_⟩
def coz.l0:Nat->Int->List Int->Int->Int->Option (List Int)
 |0,_,_,_,_=>none
 |k+1,x0,x5,x10,x11=>if x11<x10 then (if 0<=x11 then (if x11<(x5.length:Int) then (coz.l0 k x0 (x5.set (x11:Int).toNat (wrap64 (x0+x11))) x10 (wrap64 (x11+1))) else (none)) else (none)) else (some x5)
def coz.f (k:Nat) (a0:Int) (a1:Int):Option (List Int):=if 0<=a1 then (if (a1:Int).toNat<=35184372088832 then ((some (List.replicate (a1:Int).toNat 0:List Int)).bind fun y300=>(coz.l0 k a0 y300 (y300.length:Int) 0)) else (none)) else (none)
theorem coz.calls (k : Nat) (a0 : Int) (a1 : Int) (r : List Int) (w : World) (h : coz.f k a0 a1 = some r) :
  Calls Tryz.prog 118 #[.int .i64 a0, .int .i64 a1] w fun e w'=> ∃v0_:Value,e= .returned (v0_)/\Kd.R (Kd.int .i64) 3 w' w.heap.size (fun _=>True) v0_ r/\Below w.heap.size w w':=by
 have HB:=Za (Zw w.heap.size w);have H:=h;clear h;unfold coz.f at H;by_cases c3:0<=a1
 rotate_left
 ·rw [Yb c3] at H;exact Yf H (by simp)
 rw [Ya c3] at H;have c3b0:=Zz c3;have c3b1:=Zd c3;clear c3;by_cases c4:(a1:Int).toNat<=35184372088832
 rotate_left
 ·rw [Yb c4] at H;exact Yf H (by simp)
 rw [Ya c4] at H;have c4b0:=Zz c4;have c4b1:=Zd c4;clear c4;obtain ⟨y300,hy300⟩: ∃y_:List Int,y_=(List.replicate (a1:Int).toNat 0):=⟨_,rfl⟩
 first|rw [Zl, <-hy300] at H|rw [<-hy300] at H
 (try dsimp only at H)
 have Ny300:=Za hy300;clear hy300;have H':=Za H;clear H;go_enter Tryz.func118,Tryz.ntmps118
 go_wp2_with (first|((with_reducible refine aUz (N:=8) rfl ?_);refine Kd.R_make (Kd.int .i64) _ 3 rfl (N:=8) rfl 57 _ _ rfl a1 rfl rfl Tryz.underlying57 (.int .i64 0) 8 info3 rfl (by decide) (by omega) 0 (ok:=fun _=>True) (okp:=fun _=>True) rfl (fun _ hk=>hk) trivial (Zc as_) (Zt (Nat.mul_le_mul_right _ (Zc as_:a1.toNat<=35184372088832)) (by omega)) (Zw _ _) (Zv _) ?_;intro v301 w5 ho6 hb hg_ hnew_;clear hg_ hnew_;(first|rw [<-Ny300.out] at ho6|(simp only [Int.reduceToNat] at ho6;rw [<-Ny300.out] at ho6));have n_:=Zb (Za (Kd.bGz ho6 (acz bl_))) (hs_ HB hb);clear HB;obtain ⟨HO302,HB⟩:=n_;clear hb ho6;obtain ⟨Ao7,co7,eo7⟩:=Kd.a7z HO302.out;subst eo7))
 go_loopg [11] k (fun kq v11 w'=> ∃(x5_1:List Int) (x11_1:Int),v11= .int .i64 x11_1/\Aside0 (coz.l0 kq a0 x5_1 (y300.length:Int) x11_1=some r)/\Aside0 (kq<=k)/\Aside0 (Kd.R (Kd.int .i64) 3 w' w.heap.size (fun _=>True) (.slice Ao7 y300.length co7) x5_1)/\Aside0 (Below w.heap.size w w'))
 case atStart=>exact ⟨(y300),(0),sd_,H',⟨Zv _⟩,⟨xd_ HO302.out⟩,⟨bl_⟩⟩
 clear H'
 try clear c1
 try clear p2
 try clear c3
 try clear c3b0
 try clear c3b1
 try clear c4
 try clear c4b0
 try clear c4b1
 obtain ⟨x5_1,x11_1,rfl,HA,HK1,HO_5,HB⟩:=hrel;have hl5_1:=(Kd.aSz HO_5.out).1;rw [hl5_1] at HO_5
 (try simp only [hl5_1])
 rcases gk with _|k1
 ·exact Yf HA.out (by simp [coz.l0])
 have H:=HA.out;clear HA;simp only [coz.l0] at H;by_cases c8:x11_1<(y300.length:Int)
 rotate_left
 ·rw [Yb c8] at H;have c8b0:=Ze c8
  (first|(rw [hl5_1] at c8b0)|skip)
  clear c8;obtain rfl:=Zn H;go_wp2;go_ret;exact ⟨_,er_,xd_ HO_5.out,bl_⟩
 rw [Ya c8] at H;have c8b0:=Zd c8;clear c8;by_cases c9:0<=x11_1
 rotate_left
 ·rw [Yb c9] at H;exact Yf H (by simp)
 rw [Ya c9] at H;have c9b0:=Zd c9;clear c9;by_cases c10:x11_1<(x5_1.length:Int)
 rotate_left
 ·rw [Yb c10] at H;exact Yf H (by simp)
 rw [Ya c10] at H;have c10b0:=Zd c10;clear c10;obtain ⟨y303,hy303⟩: ∃y_:List Int,y_=(x5_1.set (x11_1:Int).toNat (wrap64 (a0+x11_1))):=⟨_,rfl⟩
 first|rw [Zl, <-hy303] at H|rw [<-hy303] at H
 (try dsimp only at H)
 have Ny303:=Za hy303;clear hy303;have H':=Za H;clear H;have p11:0<=(x11_1:Int):=Zc as_;have q11:(x11_1:Int)<((x5_1.length:Int):Int):=Zc as_;obtain ⟨go11,co11,eo11,gb11,gl11,cl11,HG11⟩:=Kd.dBz HO_5.out (by omega)
 (first|cases eo11|(injection eo11 with ea_ en_ ec_;(first|subst ea_|(injection ea_ with ea_;subst ea_));subst ec_;clear en_))
 have GB11:=Za gb11;have GG11:=Za HG11;clear gb11 gl11 HG11;obtain ⟨hx11_0,hf11_0⟩:=Kd.R_celln 0 HO_5.out (x11_1:Int) p11 q11;replace p11:=Zz p11;replace q11:=Zz q11;have HP12:=Kd.R_putg HO_5.out (x11_1:Int) (wrap64 (a0+x11_1))
 go_wp2_with (first|((with_reducible refine dcz (t:=3) (p:=19) rfl ?_);refine dVz (t:=3) (p:=19) (v:= ?vo_w13) (w1:=(wr.setCell ⟨go11,(x11_1:Int).toNat,none⟩ (.int .i64 (wrap64 (a0+x11_1))))) ?hg ?ho ?hn ?hr ?_;(case ho=>rfl);(case hg=>rfl);(case hn=>rfl);(case hr=>first|(go_simp;done)|(go_simp;rfl));intro w13 hw;have hg:wr.grownBy w13 (some go11):=(by rw [hw];exact HP12.2);have hp_:Kd.R (Kd.int .i64) 3 w13 w.heap.size (fun _=>True) (.slice (some ⟨go11,0,none⟩) x5_1.length co7) y303:=(by rw [hw,Ny303.out];exact HP12.1);clear HP12;have n_:=Zb (Za (hp_)) (Za ((by rw [hw];exact dxz (HB.out) GB11.out:Below w.heap.size w w13)));clear HO_5 HB;obtain ⟨HO_5,HB⟩:=n_;clear hg hw hp_))
 (try simp only [<-hl5_1])
 go_roundg k1
 case measure=>have:=HK1.out;omega
 case rel=>exact ⟨(y303),(wrap64 (x11_1+1)),sd_,H',⟨by have:=HK1.out;omega⟩,⟨by (try simp only [hl5_1]);(with_reducible repeat (first|apply Kd.R_alloc|apply Kd.dbz|apply Kd.cJz));exact HO_5.out⟩,⟨bl_⟩⟩
theorem ofInt64 (a:Nat) (ha:a<9223372036854775808):(BitVec.ofInt 64 (a:Int)).toNat=a:=by
 rw [BitVec.ofInt_natCast,BitVec.toNat_ofNat];exact Nat.mod_eq_of_lt (by omega)
theorem i64_and1 (a:Nat) (ha:a<9223372036854775808):Go.bits .and .i64 (a:Int) 1=((a % 2:Nat):Int):=by
 show IntKind.i64.wrap ((BitVec.ofInt 64 (a:Int)&&&BitVec.ofInt 64 (1:Int)).toNat:Int)=_;rw [BitVec.toNat_and,ofInt64 a ha,show (1:Int)=((1:Nat):Int) from rfl,ofInt64 1 (by omega),Nat.and_one_is_mod,IntKind.wrap_i64];omega
theorem gmN_assoc {wb:Int} (hw:wb=8\/wb=16) {a b:Nat} (ha:(a:Int)<fsize wb) (hb:(b:Int)<fsize wb) (c:Nat):gmN wb (gmN wb a b) c=gmN wb a (gmN wb b c):=by
 rcases hw with rfl|rfl
 ·exact gf8.toGf.assoc (by simp [fsize] at ha;omega) (by simp [fsize] at hb;omega) c
 ·exact gf16.toGf.assoc (by simp [fsize] at ha;omega) (by simp [fsize] at hb;omega) c
theorem gpwN_zero (wb:Int) (a:Nat):gpwN wb a 0=1:=by unfold gpwN;split<;>rfl
theorem gpwN_even {wb:Int} (hw:wb=8\/wb=16) {a:Nat} (ha:(a:Int)<fsize wb) (n:Nat):gpwN wb (gmN wb a a) n=gpwN wb a (2*n):=by
 rcases hw with rfl|rfl
 ·exact gf8.toGf.gp_sq (by simp [fsize] at ha;omega) n
 ·exact gf16.toGf.gp_sq (by simp [fsize] at ha;omega) n
theorem gpwN_lt {wb:Int} (hw:wb=8\/wb=16) {a:Nat} (ha:(a:Int)<fsize wb) (n:Nat):(gpwN wb a n:Int)<fsize wb:=by
 rcases hw with rfl|rfl
 ·have:=gf8.toGf.gp_lt (a:=a) (by simp [fsize] at ha;omega) n;simp only [gpwN,fsize,if_true];omega
 ·have:=gf16.toGf.gp_lt (a:=a) (by simp [fsize] at ha;omega) n;simp only [gpwN,fsize,show¬((16:Int)=8) by decide,if_false];omega
theorem gpwN_odd {wb:Int} (hw:wb=8\/wb=16) {a:Nat} (ha:(a:Int)<fsize wb) (n:Nat):gmN wb a (gpwN wb (gmN wb a a) n)=gpwN wb a (2*n+1):=by
 rw [gpwN_even hw ha];rcases hw with rfl|rfl
 ·exact gf8.toGf.comm (by simp [fsize] at ha;omega) (gf8.toGf.gp_lt (by simp [fsize] at ha;omega) _)
 ·exact gf16.toGf.comm (by simp [fsize] at ha;omega) (gf16.toGf.gp_lt (by simp [fsize] at ha;omega) _)
theorem gmN_one {wb:Int} (hw:wb=8\/wb=16) {a:Nat} (ha:(a:Int)<fsize wb):gmN wb 1 a=a:=by
 rcases hw with rfl|rfl
 ·exact gf8.toGf.dIz (by simp [fsize] at ha;omega)
 ·exact gf16.toGf.dIz (by simp [fsize] at ha;omega)
theorem gmul_in {wb a b:Int} (ha:0<=a) (ha':a<fsize wb) (hb:0<=b) (hb':b<fsize wb):gmul wb a b=(gmN wb a.toNat b.toNat:Int):=by
 unfold gmul;rw [Ya (by simp [inF];omega)]
theorem gpow_out {wb a n:Int} (h:(inF wb a&&decide (0<=n))=false):gpow wb a n=0:=by simp [gpow,h]
def PowRel (wb:Int) (R:Nat) (o x:Int) (m:Nat):Prop:=0<=o/\o<fsize wb/\0<=x/\x<fsize wb/\gmN wb o.toNat (gpwN wb x.toNat m)=R
theorem PowRel.even {wb:Int} (hw:wb=8\/wb=16) {R:Nat} {o x:Int} {m:Nat} (h:PowRel wb R o x m) (he:m % 2=0):PowRel wb R o (gmul wb x x) (m / 2):=by
 obtain ⟨h1,h2,h3,h4,h5⟩:=h;have hr:=bJz hw x x;refine ⟨h1,h2,hr.1,hr.2,?_⟩;rw [gmul_in h3 h4 h3 h4,Zu,gpwN_even hw (by omega),show 2*(m / 2)=m by omega];exact h5
theorem PowRel.odd {wb:Int} (hw:wb=8\/wb=16) {R:Nat} {o x:Int} {m:Nat} (h:PowRel wb R o x m) (he:m % 2=1):PowRel wb R (gmul wb o x) (gmul wb x x) (m / 2):=by
 obtain ⟨h1,h2,h3,h4,h5⟩:=h;have hr:=bJz hw x x;have hr':=bJz hw o x;refine ⟨hr'.1,hr'.2,hr.1,hr.2,?_⟩;rw [gmul_in h1 h2 h3 h4,gmul_in h3 h4 h3 h4,Zu,Zu,gmN_assoc hw (by omega) (by omega),gpwN_odd hw (by omega),show 2*(m / 2)+1=m by omega];exact h5
theorem PowRel.done {wb:Int} (hw:wb=8\/wb=16) {R:Nat} {o x:Int} (h:PowRel wb R o x 0):o=(R:Int):=by
 obtain ⟨h1,h2,h3,h4,h5⟩:=h;rw [gpwN_zero] at h5
 have:gmN wb o.toNat 1=o.toNat:=by
  rcases hw with rfl|rfl
  ·exact gf8.toGf.one_right (by simp [fsize] at h2;omega)
  ·exact gf16.toGf.one_right (by simp [fsize] at h2;omega)
 omega
theorem PowRel.start {wb:Int} (hw:wb=8\/wb=16) {a:Int} {n:Nat} (ha:0<=a) (ha':a<fsize wb):PowRel wb (gpwN wb a.toNat n) 1 a n:=
 ⟨by omega,by rcases hw with rfl|rfl<;>decide,ha,ha',gmN_one hw (gpwN_lt hw (by omega) _)⟩
theorem gf_Pow.calls (g : Nat) (S : Nat -> Prop) (wb a : Int) (n : Nat) (W : World) (hn : n <= 1000000) (hw : wb = 8 \/ wb = 16) (hF : Fd W g wb (fpoly wb) S) (hS : ∀ k, S k -> k < W.heap.size) :
  Calls Tryz.prog 122 #[.pointer (some ⟨g,0,none⟩), .int .i64 a, .int .i64 (n:Int)] W fun e w'=>e= .returned (.int .i64 (gpow wb a n))/\Fd w' g wb (fpoly wb) S/\BB W w' g:=by
 have HC:=Za (gf_in.calls g wb (fpoly wb) S (some ⟨W.heap.size,0,none⟩) 1 [a] _ (hF.alloc (.cells #[.int .i64 a] 3)) hw (C_nums (t:=3) (heap_alloc_new _ _) (by simp)) (by simp));rw [allIn_one] at HC;have HF:=Za (hF.alloc (.cells #[.int .i64 a] 3));have HB:=Za ((BB.refl W g).alloc (.cells #[.int .i64 a] 3));have HS:=Za hS;have HW:=Za hw;clear hF hS hw;have n0:(0:Int)<=(n:Int):=by omega
 have n1:decide ((n:Int)<0)=false:=Ze (by omega);by_cases hin:inF wb a=true
 ·have hg:gpow wb a n=((gpwN wb a.toNat n:Nat):Int):=by simp [gpow,hin]
  have hr:0<=a/\a<fsize wb:=by simpa [inF] using hin
  rw [hin] at HC;rw [hg];have HR:=Za (PowRel.start (n:=n) HW.out hr.1 hr.2);generalize gpwN wb a.toNat n=R at HR;clear hin hg hr;go_enter Tryz.func122,Tryz.ntmps122
  go_wp2_with (first|(go_at_call 151;refine HC.out.mono ?_;rintro e w9 ⟨rfl,m9,rfl⟩))
  go_loopw [7,1,2] (fun o x m wr=> ∃(o1 x1:Int) (m1:Nat),o= .int .i64 o1/\x= .int .i64 x1/\m= .int .i64 (m1:Int)/\m1<=1000000/\Aside0 (PowRel wb R o1 x1 m1)/\Aside0 (Fd wr g wb (fpoly wb) S)/\Aside0 (BB W wr g)) (fun _ _ m _=>(intOf m).toNat)
  case atStart=>exact ⟨1,a,n,rfl,rfl,rfl,hn,HR,⟨HF.out.drewN _⟩,⟨HB.out.drewN _⟩⟩
  clear HR HF HB HC n0 n1 hn;obtain ⟨o1,x1,m1,rfl,rfl,rfl,hm,HR,HF,HB⟩:=hrel;by_cases hpos:0<m1
  ·have p0:(0:Int)<(m1:Int):=by omega
   have HM:=Za<|fun (y:Int) (wq:World) (hq:Fd wq g wb (fpoly wb) S) (hb:BB W wq g)=>cAz.calls g S wb y x1 wq HW.out hq (fun k hk=>Zp (HS.out k hk) hb.size)
   by_cases hodd:m1 % 2=1
   ·have HR1:=Za (HR.out.odd HW.out hodd);have hand:(Go.bits .and .i64 (m1:Int) 1==1)=true:=by rw [i64_and1 m1 (by omega),hodd];rfl
    clear hodd
    go_wp2_with (first|(go_at_call 103;refine (HM.out _ _ (by first|exact HF.out|exact q1) (by first|exact HB.out|exact HB.out.trans q2)).mono ?_;rintro e w3 ⟨rfl,q1,q2⟩))
    exact ⟨⟨_,_,m1 / 2,rfl,rfl,by rw [show ((m1 / 2:Nat):Int)=(m1:Int) / 2 by omega],by omega,HR1,⟨q1⟩,⟨(HB.out.trans ‹BB wr _ g›).trans q2⟩⟩,by simp [intOf];omega⟩
   ·have HR1:=Za (HR.out.even HW.out (by omega));have hand:(Go.bits .and .i64 (m1:Int) 1==1)=false:=by rw [i64_and1 m1 (by omega),show m1 % 2=0 by omega];rfl
    clear hodd
    go_wp2_with (first|(go_at_call 103;refine (HM.out _ _ (by first|exact HF.out|exact HF.out.drewN _) (by first|exact HB.out|exact HB.out.drewN _)).mono ?_;rintro e w3 ⟨rfl,q1,q2⟩))
    exact ⟨⟨_,_,m1 / 2,rfl,rfl,by rw [show ((m1 / 2:Nat):Int)=(m1:Int) / 2 by omega],by omega,HR1,⟨q1⟩,⟨HB.out.trans q2⟩⟩,by simp [intOf];omega⟩
  ·obtain rfl:m1=0:=by omega
   obtain rfl:=HR.out.done HW.out;go_wp2;go_ret;exact ⟨rfl,HF.out,HB.out⟩
 ·have hin':inF wb a=false:=by simpa using hin
  rw [hin'] at HC;rw [gpow_out (by simp [hin'])];clear hin hin';go_enter Tryz.func122,Tryz.ntmps122
  go_wp2_with (first|(go_at_call 151;refine HC.out.mono ?_;rintro e w9 ⟨rfl,m9,rfl⟩))
  go_ret;exact ⟨rfl,HF.out.drewN _,HB.out.drewN _⟩
theorem gf_Inv.calls (g : Nat) (S : Nat -> Prop) (wb a : Int) (W : World) (hw : wb = 8 \/ wb = 16) (hF : Fd W g wb (fpoly wb) S) (hS : ∀ k, S k -> k < W.heap.size) :
  Calls Tryz.prog 114 #[.pointer (some ⟨g,0,none⟩), .int .i64 a] W fun e w'=>e= .returned (.tuple #[.int .i64 (ginv wb a), .bool (inF wb a&&a !=0)])/\Fd w' g wb (fpoly wb) S/\BB W w' g:=by
 have HC:=Za (gf_in.calls g wb (fpoly wb) S (some ⟨W.heap.size,0,none⟩) 1 [a] _ (hF.alloc (.cells #[.int .i64 a] 3)) hw (C_nums (t:=3) (heap_alloc_new _ _) (by simp)) (by simp));rw [allIn_one] at HC;have HF:=Za (hF.alloc (.cells #[.int .i64 a] 3));have HB:=Za ((BB.refl W g).alloc (.cells #[.int .i64 a] 3));have HS:=Za (show∀k,S k->k<(W.alloc (.cells #[.int .i64 a] 3)).heap.size from fun k hk=>by have:=hS k hk;simp;omega);have HW:=Za hw
 have HSZ: ∃n:Nat,fsize wb=((n:Nat):Int)+2/\n<=1000000:=by rcases hw with rfl|rfl;exact ⟨254,rfl,by omega⟩;exact ⟨65534,rfl,by omega⟩
 obtain ⟨n,hz,hn⟩:=HSZ;clear hF hS hw;by_cases hin:inF wb a=true
 ·by_cases h0:a=0
  ·subst h0;rw [hin] at HC;have e1:ginv wb 0=0:=by simp [ginv]
   have e2:(inF wb 0&&(0:Int) !=0)=false:=by simp
   rw [e1,e2];clear hin hz e1 e2;go_enter Tryz.func114,Tryz.ntmps114
   go_wp2_with (first|(go_at_call 151;refine HC.out.mono ?_;rintro e w9 ⟨rfl,m9,rfl⟩))
   go_ret2;exact ⟨rfl,HF.out.drewN _,HB.out.drewN _⟩
  ·rw [hin] at HC
   have e1:ginv wb a=gpow wb a n:=by
    have:(a !=0)=true:=by simpa using h0
    simp only [ginv,hin,this,Bool.and_self,if_true];rw [hz,Int.add_sub_cancel]
   have e2:(inF wb a&&a !=0)=true:=by simp [hin,h0]
   rw [e1,e2];have z1:(a==0)=false:=beq_eq_false_iff_ne.2 h0;have hs:IntKind.i64.wrap (fsize wb - 2)=(n:Int):=by rw [hz,IntKind.wrap_i64];omega
   have hs':wrap64 (fsize wb - 2)=(n:Int):=by rw [hz];unfold wrap64;omega
   clear hin hz e1 e2 h0;go_enter Tryz.func114,Tryz.ntmps114
   go_wp2_with (first|(go_at_call 151;refine HC.out.mono ?_;rintro e w9 ⟨rfl,m9,rfl⟩)|(go_at_call 150;refine (egz.calls g wb (fpoly wb) S _ (HF.out.drewN _) HW.out).mono ?_;rintro e w9 ⟨rfl,m8,rfl⟩)|(go_at_call 122;refine (gf_Pow.calls g S wb a n _ hn HW.out (HF.out.drewN _) HS.out).mono ?_;rintro e w9 ⟨rfl,q1,q2⟩))
   go_ret2;exact ⟨rfl,q1,(HB.out.drewN _).trans q2⟩
 ·have hin':inF wb a=false:=by simpa using hin
  rw [hin'] at HC;have e1:ginv wb a=0:=by simp [ginv,hin']
  rw [e1];have e2:(false&&a !=0)=false:=rfl;rw [hin',e2];clear hin hin' hz e1 e2;go_enter Tryz.func114,Tryz.ntmps114
  go_wp2_with (first|(go_at_call 151;refine HC.out.mono ?_;rintro e w9 ⟨rfl,m9,rfl⟩))
  go_ret2;exact ⟨rfl,HF.out.drewN _,HB.out.drewN _⟩
end Go.Proofs.Xc
end
section
namespace Go.Proofs.Xc
open Go.RowKit Go.Proofs.Pw Go.Proofs.Pl Go.Proofs.Pm
attribute [local go_sem] baz bbz bmz bnz a2z a3z bcz bdz
open Go.Maps Go.WideMaps
def MapSet (w:World) (B:Nat) (l:List Int):Prop:=
 ∃D:DataW Unit,w.ownsMap Tryz.prog 3 (plainElem Tryz.prog 4) B l.length D/\Maps.IsMap D/\
  ∀x:Int,D.atKey (.int .i64 x) (.lit (.bool false))= .lit (.bool (decide (x∈l)))
theorem lawI:Keyed Tryz.prog 3:=int_keyed Tryz.underlying3
theorem zeroB (w:World):(zeroValue 4).run Tryz.prog w= .ok (.bool false) w:=by kernel_rfl
theorem MapSet.made (w:World):MapSet (w.alloc (.map #[] 0)) w.heap.size [] :=
 ⟨.map [],World.ownsMap_made w Tryz.prog 3 _,Maps.isMap_empty,fun s=>rfl⟩
theorem MapSet.put {w : World} {B : Nat} {l : List Int} {D : DataW Unit} {x : Int} (hm : Maps.IsMap D) (hd : ∀ s : Int, D.atKey (.int .i64 s) (.lit (.bool false)) = .lit (.bool (decide (s ∈ l))))
  (h:w.ownsMap Tryz.prog 3 (plainElem Tryz.prog 4) B (l.length+1) (D.put (.int .i64 x) (.lit (.bool true)))):MapSet w B (l++ [x]):=by
 refine ⟨_,by simpa using h,hm.put _ _,fun s=> ?_⟩;by_cases hx:x=s
 ·subst hx;rw [Maps.atKey_put_same hm (by trivial)];simp
 ·rw [Maps.atKey_put_other (fun h=>hx (by injection h with _ h;exact h.symm)),hd s];simp [Ne.symm hx]
theorem MapSet.look {w:World} {B:Nat} {l:List Int} (h:MapSet w B l) {x:Int} (hw:(Lit.int .i64 x).wf=true) (hx:x∉l):(Instr.lookup 195 (.map (some B)) (.int .i64 x) false).run Tryz.prog w= .ok (.bool false) w:=by
 obtain ⟨D,ho,hm,hd⟩:=h;obtain ⟨v,ps,hrun,hv⟩:=ho.lookup lawI Tryz.underlying195 (zeroB w) (plainElem_bool Tryz.underlying4 false) (keyOf_int_mk Tryz.underlying3 hw);rw [hd x,Ze hx] at hv;rw [hrun];unfold plainElem at hv;rw [show Tryz.prog.underlying 4=some .bool from Tryz.underlying4] at hv;cases v<;>simp at hv
 rw [hv.1]
theorem MapSet.grow {w w1:World} {B:Nat} {l:List Int} {row:Option Nat} (h:MapSet w B l) (hg:w.grownBy w1 row) (hne:some B≠row):MapSet w1 B l:=by
 obtain ⟨D,ho,r⟩:=h;exact ⟨D,ho.kept hg hne,r⟩
theorem grown_of_b {w w1:World} (h:Below w.heap.size w w1):w.grownBy w1 none:=⟨h.os,h.tape,h.output,h.size,fun k hk _=>h.block k hk⟩
theorem MapSet.below {w w1:World} {B:Nat} {l:List Int} (h:MapSet w B l) (hb:Below w.heap.size w w1):MapSet w1 B l:=h.grow (grown_of_b hb) (by simp)
theorem MapSet.noncells {w:World} {B:Nat} {l:List Int} (h:MapSet w B l): ∃o:Obj,w.heap[B]?=some o/\o.isCells=false:=by
 obtain ⟨D,⟨es,clock,hb, -⟩, -⟩:=h;exact ⟨_,hb,rfl⟩
end Go.Proofs.Xc
end
section
namespace Go.Proofs.Xc
open Go.RowKit Go.Proofs.Pw Go.Proofs.Pl Go.Proofs.Pm
attribute [local go_sem] baz bbz bmz bnz a2z a3z bcz bdz
structure Mx (W:World) (o:Nat) (bs:List (Nat×Nat)) (rows:List (List Int)):Prop where
 len:bs.length=rows.length
 outer: ∃co:Array Value,W.heap[o]?=some (.cells co 57 (0,0))/\ ∀(i:Nat) (b c:Nat) (row:List Int),bs[i]?=some (b,c)->rows[i]?=some row->co[i]?=some (.slice (some ⟨b,0,none⟩) row.length c)
 inner: ∀(i:Nat) (b c:Nat) (row:List Int),bs[i]?=some (b,c)->rows[i]?=some row->row.length<=c/\ ∃cs:Array Value,W.heap[b]?=some (.cells cs 3 (0,0))/\ ∀(j:Nat) (x:Int),row[j]?=some x->cs[j]?=some (.int .i64 x)
 nodup:(bs.map Prod.fst).Nodup
structure BS (w w':World) (g:Nat) (S:Nat->Prop):Prop where
 os:w'.os=w.os
 tape:w'.tape=w.tape
 output:w'.output=w.output
 size:w.heap.size<=w'.heap.size
 block: ∀i,i<w.heap.size->i≠g-> ¬S i->w'.heap[i]?=w.heap[i]?
namespace BS
variable {a b c : World} {g : Nat} {S : Nat -> Prop}
theorem refl (w:World) (g:Nat) (S:Nat->Prop):BS w w g S:=⟨rfl,rfl,rfl,Zv _,fun _ _ _ _=>rfl⟩
theorem trans (h:BS a b g S) (k:BS b c g S):BS a c g S:=
 ⟨k.os.trans h.os,k.tape.trans h.tape,k.output.trans h.output,Zt h.size k.size,fun i hi hg hs=>(k.block i (Zp hi h.size) hg hs).trans (h.block i hi hg hs)⟩
theorem of_bb (h:BB a b g):BS a b g S:=⟨h.os,h.tape,h.output,h.size,fun i hi hg _=>h.block i hi hg⟩
theorem drewN (h:BS a b g S) (n:Nat):BS a (b.drewN n) g S:=⟨h.os,h.tape,h.output,h.size,h.block⟩
theorem drew (h:BS a b g S):BS a b.drew g S:=⟨h.os,h.tape,h.output,h.size,h.block⟩
theorem alloc (h:BS a b g S) (o:Obj):BS a (b.alloc o) g S:=h.trans (of_bb (BB.of_below (aoz (Zw _ _) o) g))
theorem set (h:BS a b g S) {p:Addr} (hp:S p.block\/a.heap.size<=p.block) (u:Value):BS a (b.setCell p u) g S:=
 ⟨h.os,h.tape,h.output,by simpa using h.size,fun i hi hg hs=>(Below.heap_setCell b p u i (fun e=>by rcases hp with hp|hp;exact hs (e▸hp);omega)).trans (h.block i hi hg hs)⟩
theorem blk (h:BS a b g S) {k:Nat} {o:Obj} (hk:a.heap[k]?=some o) (hg:k≠g) (hs: ¬S k):b.heap[k]?=some o:=(h.block k (a4z hk) hg hs).trans hk
end BS
theorem crz {a b:World} {g:Nat} (h:BB a b g) {p:Addr} {v:Value} (hp:a.cell? p=some v) (hg:p.block≠g):b.cell? p=some v:=
 (World.cell?_of_block (h.block p.block (Zj _ _ hp) hg)).trans hp
theorem froz_bb {a b:World} {g:Nat} (h:BB a b g) {p:Addr} (hlt:p.block<a.heap.size) (hp:a.frozen? p=false) (hg:p.block≠g):b.frozen? p=false:=by
 have:=h.block p.block hlt hg
 unfold World.frozen? at *
 rw [this];exact hp
namespace Mx
variable {W W1 : World} {o : Nat} {bs : List (Nat × Nat)} {rows : List (List Int)}
theorem cvz (h:Mx W o bs rows) {i b c:Nat} {row:List Int} (hb:bs[i]?=some (b,c)) (hr:rows[i]?=some row):W.cell? ⟨o,i,none⟩=some (.slice (some ⟨b,0,none⟩) row.length c):=by
 obtain ⟨co,h1,h2⟩:=h.outer;rw [aez h1 i];exact h2 i b c row hb hr
theorem froz_o (h:Mx W o bs rows) (i:Nat):W.frozen? ⟨o,i,none⟩=false:=by
 obtain ⟨co,h1,h2⟩:=h.outer;exact boz h1 i
theorem lt_o (h:Mx W o bs rows):o<W.heap.size:=by
 obtain ⟨co,h1,h2⟩:=h.outer;exact a4z h1
theorem cLz (h:Mx W o bs rows) {i b c j:Nat} {row:List Int} {x:Int} (hb:bs[i]?=some (b,c)) (hr:rows[i]?=some row) (hx:row[j]?=some x):W.cell? ⟨b,j,none⟩=some (.int .i64 x):=by
 obtain ⟨-,cs,h1,h2⟩:=h.inner i b c row hb hr;rw [aez h1 j];exact h2 j x hx
theorem froz_i (h:Mx W o bs rows) {i b c:Nat} (hb:bs[i]?=some (b,c)) (j:Nat):W.frozen? ⟨b,j,none⟩=false:=by
 obtain ⟨row,hr⟩: ∃row,rows[i]?=some row:=⟨_,Zf (by have:=(Zk hb).1;have:=h.len;omega)⟩;obtain ⟨-,cs,h1,h2⟩:=h.inner i b c row hb hr;exact boz h1 j
theorem lt_i (h:Mx W o bs rows) {i b c:Nat} (hb:bs[i]?=some (b,c)):b<W.heap.size:=by
 obtain ⟨row,hr⟩: ∃row,rows[i]?=some row:=⟨_,Zf (by have:=(Zk hb).1;have:=h.len;omega)⟩;obtain ⟨-,cs,h1,h2⟩:=h.inner i b c row hb hr;exact a4z h1
theorem ne_o (h:Mx W o bs rows) {i b c:Nat} (hb:bs[i]?=some (b,c)):b≠o:=by
 obtain ⟨row,hr⟩: ∃row,rows[i]?=some row:=⟨_,Zf (by have:=(Zk hb).1;have:=h.len;omega)⟩;obtain ⟨-,cs,h1,h2⟩:=h.inner i b c row hb hr;obtain ⟨co,h3,h4⟩:=h.outer;rintro rfl;rw [h1] at h3;injection h3 with h3
 injection h3 with _ h3
 exact Yf h3 (by decide)
theorem ne_ij (h:Mx W o bs rows) {i j b c b' c':Nat} (hb:bs[i]?=some (b,c)) (hb':bs[j]?=some (b',c')) (hij:i≠j):b≠b':=by
 have h1:(bs.map Prod.fst)[i]?=some b:=by rw [List.getElem?_map,hb];rfl
 have h2:(bs.map Prod.fst)[j]?=some b':=by rw [List.getElem?_map,hb'];rfl
 rintro rfl;obtain ⟨hi,e1⟩:=Zk h1;obtain ⟨hj,e2⟩:=Zk h2;have hp:=List.pairwise_iff_getElem.1 h.nodup;rcases Nat.lt_or_gt_of_ne hij with hlt|hlt
 ·exact hp i j hi hj hlt (e1.trans e2.symm)
 ·exact hp j i hj hi hlt (e2.trans e1.symm)
theorem move (h:Mx W o bs rows) (ho:W1.heap[o]?=W.heap[o]?) (hb: ∀(i b c:Nat),bs[i]?=some (b,c)->W1.heap[b]?=W.heap[b]?):Mx W1 o bs rows:=by
 obtain ⟨h1,⟨co,h2,h3⟩,h4,h5⟩:=h;refine ⟨h1,⟨co,ho.trans h2,h3⟩,fun i b c row hi hr=> ?_,h5⟩;obtain ⟨hc,cs,h6,h7⟩:=h4 i b c row hi hr;exact ⟨hc,cs,(hb i b c hi).trans h6,h7⟩
theorem below (h:Mx W o bs rows) (hb:Below W.heap.size W W1):Mx W1 o bs rows:=h.move (hb.block _ h.lt_o) (fun _ _ _ hi=>hb.block _ (h.lt_i hi))
theorem alloc (h:Mx W o bs rows) (x:Obj):Mx (W.alloc x) o bs rows:=h.below (aoz (Zw _ _) x)
theorem drewN (h:Mx W o bs rows) (n:Nat):Mx (W.drewN n) o bs rows:=h.move rfl (fun _ _ _ _=>rfl)
theorem drew (h:Mx W o bs rows):Mx W.drew o bs rows:=h.move rfl (fun _ _ _ _=>rfl)
theorem ne_g (h:Mx W o bs rows) {g:Nat} {cs:Array Value} (hg:W.heap[g]?=some (.cells cs 172 (0,0))):o≠g/\ ∀(i b c:Nat),bs[i]?=some (b,c)->b≠g:=by
 refine ⟨?_,fun i b c hb=> ?_⟩
 ·obtain ⟨co,h3,h4⟩:=h.outer;rintro rfl;rw [hg] at h3;injection h3 with h3
  injection h3 with _ h3
  exact Yf h3 (by decide)
 ·obtain ⟨row,hr⟩: ∃row,rows[i]?=some row:=⟨_,Zf (by have:=(Zk hb).1;have:=h.len;omega)⟩;obtain ⟨-,cs,h1,h2⟩:=h.inner i b c row hb hr;rintro rfl;rw [hg] at h1;injection h1 with h1
  injection h1 with _ h1
  exact Yf h1 (by decide)
theorem bb (h:Mx W o bs rows) {g:Nat} (hg:o≠g/\ ∀(i b c:Nat),bs[i]?=some (b,c)->b≠g) (hb:BB W W1 g):Mx W1 o bs rows:=h.move (hb.block _ h.lt_o hg.1) (fun i b c hi=>hb.block _ (h.lt_i hi) (hg.2 i b c hi))
theorem set (h:Mx W o bs rows) {i b c j:Nat} {row:List Int} (hb:bs[i]?=some (b,c)) (hr:rows[i]?=some row) (x:Int):Mx (W.setCell ⟨b,j,none⟩ (.int .i64 x)) o bs (rows.set i (row.set j x)):=by
 have hne:=h.ne_o hb;refine ⟨by rw [List.length_set];exact h.len,?_,fun k b' c' row' hk hr'=> ?_,h.nodup⟩
 ·obtain ⟨co,h1,h2⟩:=h.outer;refine ⟨co,byz h1 (Ne.symm hne) _,fun k b' c' row' hk hr'=> ?_⟩;by_cases hki:i=k
  ·subst hki
   have:row.set j x=row':=by
    rw [List.getElem?_set_self (Zk hr).1] at hr';exact Zn hr'
   rw [<-this,List.length_set];exact h2 _ _ _ _ hk hr
  ·rw [List.getElem?_set_ne hki] at hr';exact h2 k b' c' row' hk hr'
 ·by_cases hki:i=k
  ·subst hki;rw [hb] at hk;injection hk with hk
   injection hk with e1 e2
   subst e1;subst e2
   have e:row.set j x=row':=by
    rw [List.getElem?_set_self (Zk hr).1] at hr';exact Zn hr'
   subst e;obtain ⟨hc,cs,h1,h2⟩:=h.inner i b c row hb hr;refine ⟨by rw [List.length_set];exact hc,_,ecz h1 j _,fun j' x' hx'=> ?_⟩;by_cases hj:j=j'
   ·subst hj;obtain ⟨hlt,e⟩:=Zk hx';rw [List.length_set] at hlt;rw [List.getElem_set_self] at e;subst e;have:=h2 j _ (Zf hlt);have hl:=(Array.getElem?_eq_some_iff.1 this).1;simp [hl]
   ·rw [List.getElem?_set_ne hj] at hx';rw [Array.getElem?_setIfInBounds_ne hj];exact h2 j' x' hx'
  ·rw [List.getElem?_set_ne hki] at hr';obtain ⟨hc,cs,h1,h2⟩:=h.inner k b' c' row' hk hr';exact ⟨hc,cs,byz h1 (Ne.symm (h.ne_ij hb hk hki)) _,h2⟩
end Mx
end Go.Proofs.Xc
end
