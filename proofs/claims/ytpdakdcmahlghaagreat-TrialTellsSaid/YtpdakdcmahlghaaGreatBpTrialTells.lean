/- The plain law of TrialTells: whose shards any ones may be is the document's answer. -/
import Derived.Test.YtpdakdcmahlghaaGreatBTrialTells21
namespace Go.Proofs.YtpdakdcmahlghaaGreat.Pure
open Go.RowKit Go.Proofs.Xc Go.Proofs.Pw Go.Proofs.Pl Go.Proofs.Pm
def bZz.Pure:Prop:= ∀(l0:List (List Int)) (a1:Int),l0.length<=maxLen->(∀r,r∈l0->r.length<=maxLen/\ ∀x∈r,(Lit.int .u8 x).wf=true)->(Lit.int .i64 a1).wf=true-> ∃k,bZz.f k l0 a1=some true
theorem TrialTells : bZz.Pure := by
  intro l a hl hw ha;have hb: ∀r,r∈l-> ∀z,z∈r->0<=z/\z<=255:=fun r hr z hz=>u8_wf ((hw r hr).2 z hz)
  clear hl hw ha;have haw:Ev (fun k=>cuz.f k) true:=Ev.congr (fun _=>rfl) (Ev.now true);obtain ⟨few,hF,hfew⟩:=fewb_ev l;refine Ev.rounds (Ev.bind haw (Ev.bind hF ?_))
  cases few with
  |false=>exact Ev.congr (fun n=>by rw [Yb (by decide)]) (Ev.now true)
  | true =>
    obtain ⟨h1,h2⟩:=hfew rfl;obtain ⟨t,ht,t1,t2⟩:=trial16_ev l a h2 h1 hb;obtain ⟨⟨p,e⟩,r1,r2⟩:=rpick_ev l a t t1 t2;refine Ev.congr (fun n=>by rw [Ya rfl]) (Ev.bind r1 (Ev.bind r2 ?_));refine Ev.congr (fun n=>by rw [Ya rfl]) (Ev.bind t1 (Ev.bind t2 (Ev.bind (rints_ev t (by omega)) ?_)));exact Ev.congr (fun n=>by rw [Ya rfl,Ya rfl,beq_self_eq_true]) (Ev.now true)
end Go.Proofs.YtpdakdcmahlghaaGreat.Pure
