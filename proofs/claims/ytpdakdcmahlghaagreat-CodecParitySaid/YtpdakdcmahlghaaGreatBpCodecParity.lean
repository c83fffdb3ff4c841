/- The plain law of CodecParity: parity shards, and whether shards are verified, are the document's. -/
import Derived.Test.YtpdakdcmahlghaaGreatBCodecParity20
namespace Go.Proofs.YtpdakdcmahlghaaGreat.Pure
open Go.RowKit Go.Proofs.Xc Go.Proofs.Pw Go.Proofs.Pl Go.Proofs.Pm
def aVz.Pure:Prop:= ∀(a0_0:Int) (a0_1:Int) (a0_2:Int) (l1:List (List Int)),(Lit.int .i64 a0_0).wf=true->(Lit.int .i64 a0_1).wf=true->(Lit.int .i64 a0_2).wf=true->l1.length<=maxLen->(∀r,r∈l1->r.length<=maxLen/\ ∀x∈r,(Lit.int .u8 x).wf=true)-> ∃k,aVz.f k a0_0 a0_1 a0_2 l1=some true
theorem CodecParity : aVz.Pure := by
  intro q x y l hq hx hy hl hw;have hb: ∀r,r∈l-> ∀z,z∈r->0<=z/\z<=255:=fun r hr z hz=>u8_wf ((hw r hr).2 z hz)
  clear hq hx hy hl hw;have haw:Ev (fun k=>cgz.f k) true:=Ev.congr (fun _=>rfl) (Ev.now true);obtain ⟨few,hF,hfew⟩:=fewb_ev l;refine Ev.rounds (Ev.bind haw (Ev.bind hF ?_))
  cases few with
  |false=>exact Ev.congr (fun n=>by rw [Yb (by decide)]) (Ev.now true)
  | true =>
    obtain ⟨h1,h2⟩:=hfew rfl;have hr: ∀r,r∈l->r.length<=1000000:=fun r hm=>by have:=h1 r hm;omega
    obtain ⟨p,e,q1,q2,q3,q4, -,q5⟩:=rpar11 q x y l (by omega) hr hb;obtain ⟨b,v1,v2⟩:=rver11 q x y l (by omega) hr hb;have hs:=rsame_dec p p (by omega) q5 q5;rw [Zd rfl] at hs;refine Ev.congr (fun n=>by rw [Ya rfl]) (Ev.bind q2 (Ev.bind q1 ?_));refine Ev.congr (fun n=>by rw [Ya rfl]) (Ev.bind hs ?_);refine Ev.congr (fun n=>by rw [Ya rfl,Ya rfl]) (Ev.bind v2 (Ev.bind v1 ?_));rw [beq_self_eq_true];exact Ev.now true
end Go.Proofs.YtpdakdcmahlghaaGreat.Pure
