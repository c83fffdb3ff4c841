/- The plain law of CodecEncodes: all shards of any bytes, of any params, are the document's. -/
import Derived.Test.YtpdakdcmahlghaaGreatBCodecEncodes22
namespace Go.Proofs.YtpdakdcmahlghaaGreat.Pure
open Go.RowKit Go.Proofs.Xc Go.Proofs.Pw Go.Proofs.Pl Go.Proofs.Pm
def bKz.Pure:Prop:= ∀(a0_0:Int) (a0_1:Int) (a0_2:Int) (l1:List Int),(Lit.int .i64 a0_0).wf=true->(Lit.int .i64 a0_1).wf=true->(Lit.int .i64 a0_2).wf=true->l1.length<=maxLen->l1.length*1<=140737488351232->(∀x∈l1,(Lit.int .u8 x).wf=true)-> ∃k,bKz.f k a0_0 a0_1 a0_2 l1=some true
theorem CodecEncodes : bKz.Pure := by
  intro q x y b hq hx hy hl hl2 hw;have hb: ∀z,z∈b->0<=z/\z<=255:=fun z hz=>u8_wf (hw z hz)
  clear hq hx hy hl hl2 hw;have haw:Ev (fun k=>cmz.f k) true:=Ev.congr (fun _=>rfl) (Ev.now true);refine Ev.rounds (Ev.bind haw ?_);by_cases hn:(b.length:Int)>300
  · exact Ev.congr (fun n=>by rw [Ya hn]) (Ev.now true)
  have key : ∃ (p : List (List Int)) (e : Int), Ev (fun k => cqz.f k q x y b) (p, e) /\ Ev (fun k => cgz.f k q x y b) (p, e) /\ p.length <= 1000000 /\ (∀ r, r ∈ p -> ∀ z, z ∈ r -> 0 <= z /\ z <= 255) := by
    obtain ⟨mb,hmb⟩:=eqz q x y
    cases mb with
    | false =>
      have h1 : Ev (fun k => a6z.f k q x y b) ([], 1) := by
        have h2:Ev (fun k=>a1z.f k q x y (b.length:Int)) (0,1):=Ev.congr (fun k=>by unfold a1z.f;rw [hmb,Zl,Yb (by decide)]) (Ev.step (f:=fun _=>some (0,1)) (fun k=>by rw [a1z.j0,Ya rfl]) (Ev.now _));refine Ev.bind h2 (Ev.congr (fun k=>by dsimp only;rw [Yb (by decide)]) (Ev.now _))
      have h3 : Ev (fun k => aEz.f k q x y b) ([], 1) := by
        have h2:Ev (fun k=>ayz.f k q x y (b.length:Int)) (0,1):=Ev.congr (fun k=>by unfold ayz.f;rw [dUz,hmb,Zl,Yb (by decide)]) (Ev.step (f:=fun _=>some (0,1)) (fun k=>by rw [ayz.j0,Ya rfl]) (Ev.now _));refine Ev.bind h2 (Ev.congr (fun k=>by dsimp only;rw [Yb (by decide)]) (Ev.now _))
      exact ⟨[],1,Ev.bind h1 (Ev.congr (fun k=>by dsimp only;rw [Yb (by decide)]) (Ev.now _)),Ev.bind h3 (Ev.congr (fun k=>by dsimp only;rw [Yb (by decide)]) (Ev.now _)),by simp,fun r h=>by simp at h⟩
    | true =>
      obtain ⟨p1,p2,k1,k2,m1,m2⟩:=cpz hmb;obtain ⟨K,rfl⟩: ∃K:Nat,x=K:=⟨x.toNat,by omega⟩;obtain ⟨M,rfl⟩: ∃M:Nat,y=M:=⟨y.toNat,by omega⟩;obtain ⟨data,d1,d2,d3,d4,d5⟩:=rsplit_ev q K M b hmb (by omega);have hz:=eVz q K b.length (by omega) (by omega) (by omega);obtain ⟨p,e,r1,r2,r3, -, -,r6⟩:=rpar11 q (K:Int) (M:Int) data (by omega) (fun r hr=>by rw [d2 r hr];omega) (d3 hb);have hpe:=Ev.uniq r2 (par_ev q K M (sizeN q K b.length) data hmb d1 (by omega) (sizeN_even q K b.length) d2);obtain rfl:e=0:=congrArg Prod.snd hpe;refine ⟨data++p,0,Ev.bind d4 ?_,Ev.bind d5 ?_,by rw [List.length_append];omega,fun r hr=> ?_⟩
      · refine Ev.congr (f := fun k => (aFz.f k q (K : Int) (M : Int) data).bind fun t => if data.length + t.1.length < 5864062014805 then some (data ++ t.1, t.2) else none) (fun k => by dsimp only; rw [Ya rfl]) (Ev.bind r2 (Ev.congr (fun k => ?_) (Ev.now _)))
        dsimp only;rw [Ya (by omega)]
      · refine Ev.congr (f := fun k => (arz.f k q (K : Int) (M : Int) data).bind fun t => (some ([] : List (List Int))).bind fun u => if u.length + data.length < 5864062014805 then (some (u ++ data : List (List Int))).bind fun v => if v.length + t.1.length < 5864062014805 then some (v ++ t.1, 0) else none else none) (fun k => by dsimp only; rw [Ya rfl]) (Ev.bind r1 (Ev.congr (fun k => ?_) (Ev.now _)))
        dsimp only;rw [Zl,List.nil_append,List.length_nil,Ya (by omega),Zl,Ya (by omega)]
      · rcases List.mem_append.1 hr with hr | hr
        · exact d3 hb r hr
        · exact r6 r hr
  obtain ⟨p,e,h1,h2,h3,h4⟩:=key;have hs:=rsame_dec p p h3 h4 h4;rw [Zd rfl] at hs;refine Ev.congr (fun n=>by rw [Yb hn]) (Ev.bind h1 (Ev.bind h2 ?_));refine Ev.congr (fun n=>by dsimp only;rw [Ya rfl]) (Ev.bind hs ?_);refine Ev.congr (fun n=>by rw [Ya rfl,beq_self_eq_true]) (Ev.now true)
end Go.Proofs.YtpdakdcmahlghaaGreat.Pure
