/- foz: for every input the law returns true, and each argument reads as it did (the row). Conditions: the row's own alone. -/
import Derived.Test.YtpdakdcmahlghaaGreatRows
import Derived.Test.YtpdakdcmahlghaaGreatBReconWhich24
import Derived.Test.YtpdakdcmahlghaaGreatBpReconWhich
import Derived.Test.YtpdakdcmahlghaaGreatRowKit
import Derived.WalkKit
import Derived.ProofKit
import Derived.OpenShut
import Derived.ShutString
import Derived.ChangeOld
import Derived.Below
import Derived.SizedLaws
import Derived.Deep.DeepHandedRow
import Derived.Lib.LaidTab
set_option maxRecDepth 100000
namespace Go.Proofs.YtpdakdcmahlghaaGreat.reconWhich
open Go.ChangeShapes Go.WideShapes Go.ChangeAt Go.RowKit
open Go.ChangeMaps (open_string shut_string)
set_option linter.unusedVariables false
theorem own:ownKnob Tryz.prog.godebug=none:=by kernel_rfl
theorem laidOut:laidOutB Tryz.prog=true:=by kernel_rfl
def IsRow (k : IntKind) (w : World) (a : Option Addr) (len cap : Nat) (zs : List Int) : Prop :=
  (a=none/\len=0/\cap=0/\zs= [])\/
  ∃x,a=some x/\len<=cap/\cap<=maxLen/\zs.length=cap/\(∀i,i<zs.length->w.cell? (x.add i)=some (.int k (zs.getD i 0)))/\ ∀n∈zs,(Lit.int k n).wf=true
theorem contract (H : Type) (enc : TypeId × Value -> H) (W : World) (base : Nat) (args : Array Value) (ds gs : List (DataW H)) (before : List MemPlace)
    (hval0: ∀(j:Nat) t v,Tryz.f6.params[j]?=some t->args[j]?=some v->Value.okWide Tryz.prog W .any base t v)
    (hW:DataW.Whole enc Tryz.prog Tryz.f6.params.toList Rows.reconWhichSpec.vars false W args.toList ds gs before)
    (hsz0:(DataW.weightsEach Tryz.prog (Tryz.f6.params.toList++Rows.reconWhichSpec.plain.varTypes Tryz.prog) (ds++gs)).all (· <=reachBytes)=true):
    Calls Tryz.prog 6 args W fun e W'=> ∃v,e= .returned v/\Rows.reconWhichSpec.post enc Tryz.prog Tryz.f6 false true false false W args v W':=by
  have hsz:(DataW.weightsEach Tryz.prog (Tryz.f6.params.toList++Rows.reconWhichSpec.plain.varTypes Tryz.prog) (ds++gs)).all (· <=reachBytes)=true:=hsz0;have hval: ∀(j:Nat) t v,Tryz.f6.params[j]?=some t->args[j]?=some v->Value.okWide Tryz.prog W .any base t v:=hval0;have hW':=hW;obtain ⟨p,q,hA0,hV,rfl,hfz,hnd⟩:=hW;have hA:DataW.TrodAll enc Tryz.prog W 0 (fun _=>true) true Tryz.f6.params.toList args.toList ds p:=hA0;rw [Tryz.params6] at hA hval hsz;obtain ⟨v0,vs0,d0,ds0,p0,q0,hargs,rfl,rfl,h0,r0⟩:=trodAll_cons hA;obtain ⟨v1,vs1,d1,ds1,p1,q1,rfl,rfl,rfl,h1,r1⟩:=trodAll_cons r0;obtain ⟨v2,vs2,d2,ds2,p2,q2,rfl,rfl,rfl,h2,r2⟩:=trodAll_cons r1;obtain ⟨rfl,rfl,rfl⟩:=trodAll_nil r2;obtain rfl:args= #[v0,v1,v2] :=by cases args;simp_all
  obtain ⟨rfl,rfl⟩:=trodVars_none hV;have k0:=h0;have lt0: ∀x∈p0,x.block<W.heap.size:=by obtain ⟨m,hm⟩:=k0;exact DataW.trod_lt m _ _ _ hm
  obtain ⟨cs0,rfl,hl0,hc0⟩:=RowKit.open_agg (ts:= [5,5,5]) (by kernel_rfl) (by kernel_rfl) (by kernel_rfl) (hval 0 42 v0 rfl rfl)
  obtain ⟨c0_0, c0_1, c0_2, rfl⟩ : ∃ c0_0 c0_1 c0_2, cs0 = [c0_0, c0_1, c0_2] := by
    match cs0,hl0 with
    | [c0_0,c0_1,c0_2],_=>exact ⟨_,_,_,rfl⟩
  obtain ⟨u0_0,hu0_0,hk0_0⟩:=hc0 0 _ rfl;obtain rfl:5=u0_0:=Option.some.inj hu0_0;obtain ⟨a0_0,rfl,w0_0⟩:=RowKit.cell_int Tryz.underlying5 hk0_0;obtain ⟨u0_1,hu0_1,hk0_1⟩:=hc0 1 _ rfl;obtain rfl:5=u0_1:=Option.some.inj hu0_1;obtain ⟨a0_1,rfl,w0_1⟩:=RowKit.cell_int Tryz.underlying5 hk0_1;obtain ⟨u0_2,hu0_2,hk0_2⟩:=hc0 2 _ rfl;obtain rfl:5=u0_2:=Option.some.inj hu0_2;obtain ⟨a0_2,rfl,w0_2⟩:=RowKit.cell_int Tryz.underlying5 hk0_2;have k1:=h1;have lt1: ∀x∈p1,x.block<W.heap.size:=by obtain ⟨m,hm⟩:=k1;exact DataW.trod_lt m _ _ _ hm
  obtain ⟨a1,len1,cap1,rfl⟩:=okWide_slice Tryz.underlying34 (hval 1 34 v1 rfl rfl)
  obtain ⟨z1, ww1⟩ : ∃ zs, IsRow .u8 W a1 len1 cap1 zs := by
    obtain ⟨fuel,hf⟩:=h1;rcases open_ints Tryz.underlying34 Tryz.underlying5 (by kernel_rfl) hf with ⟨hcs,_⟩|⟨x,l,c,zs,hcs,_,hl,hm,hz,_,hcell,hwz⟩
    · simp [Value.cells] at hcs
      obtain ⟨rfl,rfl,rfl⟩:=hcs;exact ⟨[], .inl ⟨rfl,rfl,rfl,rfl⟩⟩
    · simp [Value.cells] at hcs
      obtain ⟨rfl,rfl,rfl⟩:=hcs;exact ⟨zs, .inr ⟨_,rfl,hl,hm,by simpa using hz,hcell,hwz⟩⟩
  have yy1:len1*1<=140737488351232:=Go.Proofs.Pw.sized_ints hsz (j:=1) (t:=34) rfl rfl Tryz.underlying34 Tryz.underlying5 (by kernel_rfl) (by kernel_rfl) h1;obtain ⟨l1,rfl,hr1,hm1,hw1,hcc1⟩:=Go.Proofs.Pw.bOz.ofRowC ww1;have k2:=h2;have lt2: ∀x∈p2,x.block<W.heap.size:=by obtain ⟨m,hm⟩:=k2;exact DataW.trod_lt m _ _ _ hm
  obtain ⟨cs2,rfl,hl2,hc2⟩:=RowKit.open_agg (ts:= [5,5,5,5]) (by kernel_rfl) (by kernel_rfl) (by kernel_rfl) (hval 2 43 v2 rfl rfl)
  obtain ⟨c2_0, c2_1, c2_2, c2_3, rfl⟩ : ∃ c2_0 c2_1 c2_2 c2_3, cs2 = [c2_0, c2_1, c2_2, c2_3] := by
    match cs2,hl2 with
    | [c2_0,c2_1,c2_2,c2_3],_=>exact ⟨_,_,_,_,rfl⟩
  obtain ⟨u2_0,hu2_0,hk2_0⟩:=hc2 0 _ rfl;obtain rfl:5=u2_0:=Option.some.inj hu2_0;obtain ⟨a2_0,rfl,w2_0⟩:=RowKit.cell_int Tryz.underlying5 hk2_0;obtain ⟨u2_1,hu2_1,hk2_1⟩:=hc2 1 _ rfl;obtain rfl:5=u2_1:=Option.some.inj hu2_1;obtain ⟨a2_1,rfl,w2_1⟩:=RowKit.cell_int Tryz.underlying5 hk2_1;obtain ⟨u2_2,hu2_2,hk2_2⟩:=hc2 2 _ rfl;obtain rfl:5=u2_2:=Option.some.inj hu2_2;obtain ⟨a2_2,rfl,w2_2⟩:=RowKit.cell_int Tryz.underlying5 hk2_2;obtain ⟨u2_3,hu2_3,hk2_3⟩:=hc2 3 _ rfl;obtain rfl:5=u2_3:=Option.some.inj hu2_3;obtain ⟨a2_3,rfl,w2_3⟩:=RowKit.cell_int Tryz.underlying5 hk2_3;clear hA0 hval0 hsz0 hsz;obtain ⟨k,h⟩:=Pure.foz a0_0 a0_1 a0_2 l1 a2_0 a2_1 a2_2 a2_3 w0_0 w0_1 w0_2 hm1 yy1 hw1 w2_0 w2_1 w2_2 w2_3;refine (Xc.bSz.calls k a0_0 a0_1 a0_2 _ _ l1 a2_0 a2_1 a2_2 a2_3 true W ⟨rfl⟩ (Go.Proofs.Pw.Kd.C_of_reads (d:=(0:Int)) (h1:=fun _=>rfl) hr1) hcc1 h).mono fun e W' ⟨he,bel0⟩=> ?_
  have bel:Below W.heap.size W W':=bel0;subst he;exact ⟨_,rfl,_,_,_, [],_, [],hW',trodAll_mk1 (shut_bool Tryz.underlying4 _),(trodAll_cons_mk (Below.trod laidOut (by kernel_rfl) (of_decide_eq_true (by kernel_rfl)) k0 bel lt0) (trodAll_cons_mk (Below.trod laidOut (by kernel_rfl) (of_decide_eq_true (by kernel_rfl)) k1 bel lt1) (trodAll_cons_mk (Below.trod laidOut (by kernel_rfl) (of_decide_eq_true (by kernel_rfl)) k2 bel lt2) trodAll_mk0))),rfl,bel.frame _,fun h=>by cases h⟩
theorem lifted (os:Os) (started:os.Started) (H:Type) (enc:TypeId×Value->H):
    ReturnsInHanded {} Tryz.checked os 6 .any (Rows.reconWhichSpec.pre6 enc Tryz.prog Tryz.f6 Rows.reconWhichRow.domain false) (Rows.reconWhichSpec.post enc Tryz.prog Tryz.f6 false true false false):=by
  refine returnsInHanded_of_change_sized (C := Tryz.checked) own started (by kernel_rfl) Tryz.func6
    (ChangeSpec.witness6 (enc:=enc) (C:=Tryz.checked) false ⟨#[], #[.agg #[.int .u8 0, .int .u8 0, .int .u8 0], .slice none 0 0, .agg #[.int .u8 0, .int .u8 0, .int .u8 0, .int .u8 0]], []⟩ 8 (by kernel_rfl) (by kernel_rfl) (by kernel_rfl) (by kernel_rfl)) ?_
  intro W base args ds gs before hval hW _ hsz _;exact contract H enc W base args ds gs before hval hW hsz
theorem said : Rows.ReconWhichSaid :=
  OpenClaim.holds_of_wide 6 Tryz.f6 rfl rfl rfl rfl rfl rfl rfl ⟨rfl, rfl, rfl, rfl, rfl⟩ rfl rfl rfl rfl rfl (by kernel_rfl) Tryz.func6 (by kernel_rfl)
    (of_decide_eq_true (by kernel_rfl)) (by unfold Func.isWrapper;first|(rw [if_pos (by decide+kernel)];kernel_rfl)|(rw [if_neg (by decide+kernel)];exact ⟨rfl,rfl⟩))
    (fun os started H enc _=>lifted os started H enc)
#print axioms said
end Go.Proofs.YtpdakdcmahlghaaGreat.reconWhich
namespace Go.Proofs.YtpdakdcmahlghaaGreat
/-- The statement, under a short name, for the claim. -/
theorem reconWhich_holds:Rows.ReconWhichSaid:=reconWhich.said
end Go.Proofs.YtpdakdcmahlghaaGreat
