/- The plain law of ReconUpdates: what is updated is the document's. -/
import Derived.Test.YtpdakdcmahlghaaGreatBReconUpdates22
namespace Go.Proofs.YtpdakdcmahlghaaGreat.Pure
open Go.RowKit Go.Proofs.Xc Go.Proofs.Pw Go.Proofs.Pl Go.Proofs.Pm
def aQz.Pure:Prop:= ∀(a0_0:Int) (a0_1:Int) (a0_2:Int) (l1:List (List Int)) (a2_0:Int) (l2_1:List Int),(Lit.int .i64 a0_0).wf=true->(Lit.int .i64 a0_1).wf=true->(Lit.int .i64 a0_2).wf=true->l1.length<=maxLen->(∀r,r∈l1->r.length<=maxLen/\ ∀x∈r,(Lit.int .u8 x).wf=true)->(Lit.int .i64 a2_0).wf=true->l2_1.length<=maxLen->(∀x∈l2_1,(Lit.int .u8 x).wf=true)-> ∃k,aQz.f k a0_0 a0_1 a0_2 l1 a2_0 l2_1=some true
theorem ReconUpdates : aQz.Pure := by
  intro q x y l a b hq hx hy hl hw ha hl2 hw2;have hb: ∀r,r∈l-> ∀z,z∈r->0<=z/\z<=255:=fun r hr z hz=>u8_wf ((hw r hr).2 z hz)
  have hb2: ∀z,z∈b->0<=z/\z<=255:=fun z hz=>u8_wf (hw2 z hz)
  clear hq hx hy hl hw ha hl2 hw2;have haw:Ev (fun k=>cPz.f k) true:=Ev.congr (fun _=>rfl) (Ev.now true)
  have hoff : Ev (fun k => aQz.j0 k l true true q x y a b) true := by
    refine Ev.step (f:=fun _=>some true) (fun k=> ?_) (Ev.now _);rw [aQz.j0,Ya rfl]
  obtain ⟨few,hF,hfew⟩:=fewb_ev l;refine Ev.rounds (Ev.bind haw (Ev.bind hF ?_))
  cases few with
  |false=>exact Ev.congr (fun n=>by rw [Yb (by decide)]) hoff
  | true =>
    obtain ⟨h1,h2⟩:=hfew rfl;by_cases h3:(b.length:Int)>300
    · exact Ev.congr (fun n=>by rw [Ya rfl,Zd h3]) hoff
    · obtain ⟨p, e, q1, q2, q3, q4⟩ := upd12 q x y l a b (by omega) h1 (by omega) hb hb2
      have hs:=rsame_dec p p (by omega) q4 q4;rw [Zd rfl] at hs;refine Ev.congr (f:=fun k=>aQz.j0 k l true false q x y a b) (fun n=>by rw [Ya rfl,Ze h3]) ?_;refine Ev.step (f:=fun k=>(aIz.f k q x y l a b).bind fun bt1058=>((amz.f k q x y l a b).bind fun bt1062=>(if true=true then ((bdz.f k bt1058.1 bt1062.1).bind fun t1066=>(if t1066=true then (some (bt1058.2==bt1062.2)) else (some false))) else (some false)))) (fun k=>by rw [aQz.j0,Yb (by decide)]) ?_;refine Ev.bind q2 (Ev.bind q1 (Ev.congr (fun n=>by rw [Ya rfl]) (Ev.bind hs (Ev.congr (fun n=>by rw [Ya rfl]) ?_))));rw [beq_self_eq_true];exact Ev.now true
end Go.Proofs.YtpdakdcmahlghaaGreat.Pure
