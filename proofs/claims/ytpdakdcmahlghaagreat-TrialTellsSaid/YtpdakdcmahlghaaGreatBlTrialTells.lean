/- TrialTells: for every input the law returns true, and each argument reads as it did (the row). Conditions: the row's own alone. -/
import Derived.Test.YtpdakdcmahlghaaGreatRows
import Derived.Test.YtpdakdcmahlghaaGreatBTrialTells21
import Derived.Test.YtpdakdcmahlghaaGreatBpTrialTells
import Derived.Test.YtpdakdcmahlghaaGreatRowKit
import Derived.WalkKit
import Derived.ProofKit
import Derived.OpenShut
import Derived.ShutString
import Derived.ChangeOld
import Derived.Below
import Derived.SizedLaws
import Derived.Deep.DeepHandedRow
import Derived.Lib.LaidTab
set_option maxRecDepth 100000
namespace Go.Proofs.YtpdakdcmahlghaaGreat.trialTells
open Go.ChangeShapes Go.WideShapes Go.ChangeAt Go.RowKit
open Go.ChangeMaps (open_string shut_string)
set_option linter.unusedVariables false
theorem own:ownKnob Tryz.prog.godebug=none:=by kernel_rfl
theorem laidOut:laidOutB Tryz.prog=true:=by kernel_rfl
theorem contract (H : Type) (enc : TypeId × Value -> H) (W : World) (base : Nat) (args : Array Value) (ds gs : List (DataW H)) (before : List MemPlace)
    (hval0: ∀(j:Nat) t v,Tryz.f8.params[j]?=some t->args[j]?=some v->Value.okWide Tryz.prog W .any base t v)
    (hW:DataW.Whole enc Tryz.prog Tryz.f8.params.toList Rows.trialTellsSpec.vars false W args.toList ds gs before)
    (hsz0:(DataW.weightsEach Tryz.prog (Tryz.f8.params.toList++Rows.trialTellsSpec.plain.varTypes Tryz.prog) (ds++gs)).all (· <=reachBytes)=true):
    Calls Tryz.prog 8 args W fun e W'=> ∃v,e= .returned v/\Rows.trialTellsSpec.post enc Tryz.prog Tryz.f8 false true false false W args v W':=by
  have hsz:(DataW.weightsEach Tryz.prog (Tryz.f8.params.toList++Rows.trialTellsSpec.plain.varTypes Tryz.prog) (ds++gs)).all (· <=reachBytes)=true:=hsz0;have hval: ∀(j:Nat) t v,Tryz.f8.params[j]?=some t->args[j]?=some v->Value.okWide Tryz.prog W .any base t v:=hval0;have hW':=hW;obtain ⟨p,q,hA0,hV,rfl,hfz,hnd⟩:=hW;have hA:DataW.TrodAll enc Tryz.prog W 0 (fun _=>true) true Tryz.f8.params.toList args.toList ds p:=hA0;rw [Tryz.params8] at hA hval hsz;obtain ⟨v0,vs0,d0,ds0,p0,q0,hargs,rfl,rfl,h0,r0⟩:=trodAll_cons hA;obtain ⟨v1,vs1,d1,ds1,p1,q1,rfl,rfl,rfl,h1,r1⟩:=trodAll_cons r0;obtain ⟨rfl,rfl,rfl⟩:=trodAll_nil r1;obtain rfl:args= #[v0,v1] :=by cases args;simp_all
  obtain ⟨rfl,rfl⟩:=trodVars_none hV;have k0:=h0;have lt0: ∀x∈p0,x.block<W.heap.size:=by obtain ⟨m,hm⟩:=k0;exact DataW.trod_lt m _ _ _ hm
  obtain ⟨a0,len0,cap0,rfl⟩:=okWide_slice Tryz.underlying24 (hval 0 24 v0 rfl rfl)
  obtain ⟨l0, rfl, hcc0, hm0, hr0, hw0⟩ : ∃ l : List (List Int), len0 = l.length /\ l.length <= cap0 /\ l.length <= maxLen /\ Go.Proofs.Pw.Kd.C (Go.Proofs.Pw.Kd.slice 5 (Go.Proofs.Pw.Kd.int .u8)) W a0 l.length l /\ ∀ r, r ∈ l -> r.length <= maxLen /\ ∀ x ∈ r, (Lit.int .u8 x).wf = true := by
    obtain ⟨fuel,hf⟩:=h0;obtain ⟨A,cap,rows,hcs,q1,q2,q3,q4⟩:=RowKit.open_rows Tryz.underlying24 Tryz.underlying34 Tryz.underlying5 (by kernel_rfl) (by kernel_rfl) hf;simp [Value.cells] at hcs;obtain ⟨rfl,rfl,rfl⟩:=hcs;exact ⟨rows,rfl,q1,q2,q3,q4⟩
  have k1:=h1;have lt1: ∀x∈p1,x.block<W.heap.size:=by obtain ⟨m,hm⟩:=k1;exact DataW.trod_lt m _ _ _ hm
  obtain ⟨a1,rfl,rfl,rfl,w1⟩:=open_int Tryz.underlying3 (hval 1 3 v1 rfl rfl) h1;clear hA0 hval0 hsz0 hsz;obtain ⟨k,h⟩:=Pure.TrialTells l0 a1 hm0 hw0 w1;refine (Xc.bZz.calls k _ _ l0 a1 true W ⟨rfl⟩ hr0 hcc0 h).mono fun e W' ⟨he,bel0⟩=> ?_
  have bel:Below W.heap.size W W':=bel0;subst he;exact ⟨_,rfl,_,_,_, [],_, [],hW',trodAll_mk1 (shut_bool Tryz.underlying4 _),(trodAll_cons_mk (Below.trod laidOut (by kernel_rfl) (of_decide_eq_true (by kernel_rfl)) k0 bel lt0) (trodAll_cons_mk (Below.trod laidOut (by kernel_rfl) (of_decide_eq_true (by kernel_rfl)) k1 bel lt1) trodAll_mk0)),rfl,bel.frame _,fun h=>by cases h⟩
theorem lifted (os : Os) (started : os.Started) (H : Type) (enc : TypeId × Value -> H) :
    ReturnsInHanded {} Tryz.checked os 8 .any (Rows.trialTellsSpec.pre6 enc Tryz.prog Tryz.f8 Rows.trialTellsRow.domain false) (Rows.trialTellsSpec.post enc Tryz.prog Tryz.f8 false true false false):=by
  refine returnsInHanded_of_change_sized (C := Tryz.checked) own started (by kernel_rfl) Tryz.func8
    (ChangeSpec.witness6 (enc:=enc) (C:=Tryz.checked) false ⟨#[], #[.slice none 0 0, .int .i64 0], []⟩ 8 (by kernel_rfl) (by kernel_rfl) (by kernel_rfl) (by kernel_rfl)) ?_
  intro W base args ds gs before hval hW _ hsz _;exact contract H enc W base args ds gs before hval hW hsz
theorem said : Rows.TrialTellsSaid :=
  OpenClaim.holds_of_wide 8 Tryz.f8 rfl rfl rfl rfl rfl rfl rfl ⟨rfl, rfl, rfl, rfl, rfl⟩ rfl rfl rfl rfl rfl (by kernel_rfl) Tryz.func8 (by kernel_rfl)
    (of_decide_eq_true (by kernel_rfl)) (by unfold Func.isWrapper;first|(rw [if_pos (by decide+kernel)];kernel_rfl)|(rw [if_neg (by decide+kernel)];exact ⟨rfl,rfl⟩))
    (fun os started H enc _=>lifted os started H enc)
#print axioms said
end Go.Proofs.YtpdakdcmahlghaaGreat.trialTells
namespace Go.Proofs.YtpdakdcmahlghaaGreat
/-- The statement, under a short name, for the claim. -/
theorem trialTells_holds:Rows.TrialTellsSaid:=trialTells.said
end Go.Proofs.YtpdakdcmahlghaaGreat
