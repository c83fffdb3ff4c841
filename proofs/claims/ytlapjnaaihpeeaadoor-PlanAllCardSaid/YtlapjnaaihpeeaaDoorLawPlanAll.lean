/- PlanAll: for every input the law returns true, and each argument reads as it did (the row, and its card: the listed tables are those of the program's text). Conditions: the row's own alone. -/
import Derived.Test.YtlapjnaaihpeeaaDoorRows
import Derived.Test.YtlapjnaaihpeeaaDoorCards
import Derived.Test.YtlapjnaaihpeeaaDoorTie
import Derived.Test.YtlapjnaaihpeeaaDoorXPl16
import Derived.Test.YtlapjnaaihpeeaaDoorPurePlanAll
import Derived.Test.YtlapjnaaihpeeaaDoorRowKit
import Derived.WalkKit
import Derived.ProofKit
import Derived.OpenShut
import Derived.ShutString
import Derived.ChangeOld
import Derived.Below
import Derived.SizedLaws
import Derived.Deep.DeepHandedRow
import Derived.Lib.LaidTab
namespace Go.Proofs.YtlapjnaaihpeeaaDoor.planAll
open Go.ChangeShapes Go.WideShapes Go.ChangeAt Go.RowKit
open Go.ChangeMaps (open_string shut_string)
set_option linter.unusedVariables false
theorem own : ownKnob Tryd.prog.godebug = none := by kernel_rfl
theorem laidOut : laidOutB Tryd.prog = true := by kernel_rfl
set_option maxRecDepth 100000 in
theorem contract (H : Type) (enc : TypeId × Value → H) (W : World) (base : Nat) (args : Array Value) (ds gs : List (DataW H)) (before : List MemPlace)
    (hval0 : ∀ (j : Nat) t v, Tryd.f4.params[j]? = some t → args[j]? = some v → Value.okWide Tryd.prog W .any base t v)
    (hW : DataW.Whole enc Tryd.prog Tryd.f4.params.toList Rows.planAllSpec.vars false W args.toList ds gs before)
    (hsz0 : (DataW.weightsEach Tryd.prog (Tryd.f4.params.toList ++ Rows.planAllSpec.plain.varTypes Tryd.prog) (ds ++ gs)).all (· ≤ reachBytes) = true) :
    Calls Tryd.prog 4 args W fun e W' => ∃ v, e = .returned v ∧ Rows.planAllSpec.post enc Tryd.prog Tryd.f4 false true false false W args v W' := by
  have hsz : (DataW.weightsEach Tryd.prog (Tryd.f4.params.toList ++ Rows.planAllSpec.plain.varTypes Tryd.prog) (ds ++ gs)).all (· ≤ reachBytes) = true := hsz0
  have hval : ∀ (j : Nat) t v, Tryd.f4.params[j]? = some t → args[j]? = some v → Value.okWide Tryd.prog W .any base t v := hval0
  have hW' := hW
  obtain ⟨p, q, hA0, hV, rfl, hfz, hnd⟩ := hW
  have hA : DataW.TrodAll enc Tryd.prog W 0 (fun _ => true) true Tryd.f4.params.toList args.toList ds p := hA0
  rw [Tryd.params4] at hA hval hsz
  obtain ⟨v0, vs0, d0, ds0, p0, q0, hargs, rfl, rfl, h0, r0⟩ := trodAll_cons hA
  obtain ⟨v1, vs1, d1, ds1, p1, q1, rfl, rfl, rfl, h1, r1⟩ := trodAll_cons r0
  obtain ⟨v2, vs2, d2, ds2, p2, q2, rfl, rfl, rfl, h2, r2⟩ := trodAll_cons r1
  obtain ⟨rfl, rfl, rfl⟩ := trodAll_nil r2
  obtain rfl : args = #[v0, v1, v2] := by cases args; simp_all
  obtain ⟨rfl, rfl⟩ := trodVars_none hV
  have k0 := h0
  have lt0 : ∀ x ∈ p0, x.block < W.heap.size := by obtain ⟨m, hm⟩ := k0; exact DataW.trod_lt m _ _ _ hm
  obtain ⟨cs0, rfl, hl0, hc0⟩ := RowKit.open_agg (ts := [5, 5, 5]) (by kernel_rfl) (by kernel_rfl) (by kernel_rfl) (hval 0 39 v0 rfl rfl)
  obtain ⟨c0_0, c0_1, c0_2, rfl⟩ : ∃ c0_0 c0_1 c0_2, cs0 = [c0_0, c0_1, c0_2] := by
    match cs0, hl0 with
    | [c0_0, c0_1, c0_2], _ => exact ⟨_, _, _, rfl⟩
  obtain ⟨u0_0, hu0_0, hk0_0⟩ := hc0 0 _ rfl
  obtain rfl : 5 = u0_0 := Option.some.inj hu0_0
  obtain ⟨a0_0, rfl, w0_0⟩ := RowKit.cell_int Tryd.underlying5 hk0_0
  obtain ⟨u0_1, hu0_1, hk0_1⟩ := hc0 1 _ rfl
  obtain rfl : 5 = u0_1 := Option.some.inj hu0_1
  obtain ⟨a0_1, rfl, w0_1⟩ := RowKit.cell_int Tryd.underlying5 hk0_1
  obtain ⟨u0_2, hu0_2, hk0_2⟩ := hc0 2 _ rfl
  obtain rfl : 5 = u0_2 := Option.some.inj hu0_2
  obtain ⟨a0_2, rfl, w0_2⟩ := RowKit.cell_int Tryd.underlying5 hk0_2
  have k1 := h1
  have lt1 : ∀ x ∈ p1, x.block < W.heap.size := by obtain ⟨m, hm⟩ := k1; exact DataW.trod_lt m _ _ _ hm
  obtain ⟨cs1, rfl, hl1, hc1⟩ := RowKit.open_agg (ts := [5, 5, 5]) (by kernel_rfl) (by kernel_rfl) (by kernel_rfl) (hval 1 39 v1 rfl rfl)
  obtain ⟨c1_0, c1_1, c1_2, rfl⟩ : ∃ c1_0 c1_1 c1_2, cs1 = [c1_0, c1_1, c1_2] := by
    match cs1, hl1 with
    | [c1_0, c1_1, c1_2], _ => exact ⟨_, _, _, rfl⟩
  obtain ⟨u1_0, hu1_0, hk1_0⟩ := hc1 0 _ rfl
  obtain rfl : 5 = u1_0 := Option.some.inj hu1_0
  obtain ⟨a1_0, rfl, w1_0⟩ := RowKit.cell_int Tryd.underlying5 hk1_0
  obtain ⟨u1_1, hu1_1, hk1_1⟩ := hc1 1 _ rfl
  obtain rfl : 5 = u1_1 := Option.some.inj hu1_1
  obtain ⟨a1_1, rfl, w1_1⟩ := RowKit.cell_int Tryd.underlying5 hk1_1
  obtain ⟨u1_2, hu1_2, hk1_2⟩ := hc1 2 _ rfl
  obtain rfl : 5 = u1_2 := Option.some.inj hu1_2
  obtain ⟨a1_2, rfl, w1_2⟩ := RowKit.cell_int Tryd.underlying5 hk1_2
  have k2 := h2
  have lt2 : ∀ x ∈ p2, x.block < W.heap.size := by obtain ⟨m, hm⟩ := k2; exact DataW.trod_lt m _ _ _ hm
  obtain ⟨cs2, rfl, hl2, hc2⟩ := RowKit.open_agg (ts := [5, 5]) (by kernel_rfl) (by kernel_rfl) (by kernel_rfl) (hval 2 40 v2 rfl rfl)
  obtain ⟨c2_0, c2_1, rfl⟩ : ∃ c2_0 c2_1, cs2 = [c2_0, c2_1] := by
    match cs2, hl2 with
    | [c2_0, c2_1], _ => exact ⟨_, _, rfl⟩
  obtain ⟨u2_0, hu2_0, hk2_0⟩ := hc2 0 _ rfl
  obtain rfl : 5 = u2_0 := Option.some.inj hu2_0
  obtain ⟨a2_0, rfl, w2_0⟩ := RowKit.cell_int Tryd.underlying5 hk2_0
  obtain ⟨u2_1, hu2_1, hk2_1⟩ := hc2 1 _ rfl
  obtain rfl : 5 = u2_1 := Option.some.inj hu2_1
  obtain ⟨a2_1, rfl, w2_1⟩ := RowKit.cell_int Tryd.underlying5 hk2_1
  clear hA0 hval0 hsz0 hsz
  obtain ⟨k, h⟩ := Pure.PlanAll a0_0 a0_1 a0_2 a1_0 a1_1 a1_2 a2_0 a2_1 w0_0 w0_1 w0_2 w1_0 w1_1 w1_2 w2_0 w2_1
  refine (XPl.gambrellaw22_PlanAll.calls k a0_0 a0_1 a0_2 a1_0 a1_1 a1_2 a2_0 a2_1 true W ⟨rfl⟩  h).mono fun e W' ⟨he, bel0⟩ => ?_
  have bel : Below W.heap.size W W' := bel0
  subst he
  exact ⟨_, rfl, _, _, _, [], _, [], hW', trodAll_mk1 (shut_bool Tryd.underlying4 _), (trodAll_cons_mk (Below.trod laidOut (by kernel_rfl) (of_decide_eq_true (by kernel_rfl)) k0 bel lt0) (trodAll_cons_mk (Below.trod laidOut (by kernel_rfl) (of_decide_eq_true (by kernel_rfl)) k1 bel lt1) (trodAll_cons_mk (Below.trod laidOut (by kernel_rfl) (of_decide_eq_true (by kernel_rfl)) k2 bel lt2) trodAll_mk0))), rfl, bel.frame _, fun h => by cases h⟩
/-- A world for the witness: the settled one, the listed tables as their initialisers lay them. -/
def litCells : Nat → List (DataW Unit) → List Value
  | 0, _ => []
  | _ + 1, [] => []
  | f + 1, .lit (.int k x) :: r => .int k x :: litCells f r
  | f + 1, .agg l :: r => litCells f (l ++ r)
  | f + 1, _ :: r => litCells f r
noncomputable def laidWorld (os : Os) : World :=
  { World.holding Tryd.prog os ⟨#[], #[], []⟩ with heap := (((World.holding Tryd.prog os ⟨#[], #[], []⟩).heap.modify 1 fun | .cells _ t frozen => .cells (litCells 2000 [Rows.laid_unicode_utf8_acceptRanges]).toArray t frozen | o => o).modify 0 fun | .cells _ t frozen => .cells (litCells 2000 [Rows.laid_unicode_utf8_first]).toArray t frozen | o => o) }
theorem laid_met (os : Os) : laidMet Tryd.prog Rows.planAllRow.laid ((laidWorld os).forCall (fun _ _ => 0) ⟨#[], #[.agg #[.int .u8 0, .int .u8 0, .int .u8 0], .agg #[.int .u8 0, .int .u8 0, .int .u8 0], .agg #[.int .u8 0, .int .u8 0]], []⟩).memory :=
  laidMet_of_run' 8 (by kernel_rfl) (by kernel_rfl)
theorem reads (os : Os) {H : Type} (enc : TypeId × Value → H) : ∃ places, DataW.whole enc Tryd.prog ((laidWorld os).forCall (fun _ _ => 0) ⟨#[], #[.agg #[.int .u8 0, .int .u8 0, .int .u8 0], .agg #[.int .u8 0, .int .u8 0, .int .u8 0], .agg #[.int .u8 0, .int .u8 0]], []⟩).memory Tryd.f4.params.toList Rows.planAllSpec.vars false (#[.agg #[.int .u8 0, .int .u8 0, .int .u8 0], .agg #[.int .u8 0, .int .u8 0, .int .u8 0], .agg #[.int .u8 0, .int .u8 0]] : Array Value).toList 8 = some ([.agg [.lit (.int .u8 0), .lit (.int .u8 0), .lit (.int .u8 0)], .agg [.lit (.int .u8 0), .lit (.int .u8 0), .lit (.int .u8 0)], .agg [.lit (.int .u8 0), .lit (.int .u8 0)]], [], places) :=
  ⟨[], by kernel_rfl⟩
set_option maxRecDepth 100000 in
theorem lifted (os : Os) (started : os.Started) (H : Type) (enc : TypeId × Value → H) (F : Stop.Interp) :
    ReturnsInHanded {} Tryd.checked os 4 .any ((OpenSpec.ofChange Rows.planAllSpec).preRow enc Tryd.prog Tryd.f4 Rows.planAllRow.domain false Rows.planAllRow.laid) (((OpenSpec.ofChange Rows.planAllSpec).at F).post enc Tryd.prog Tryd.f4 false true false false) := by
  obtain ⟨places, hx⟩ := reads os enc
  refine returnsInHanded_of_row (C := Tryd.checked) (s := OpenSpec.ofChange Rows.planAllSpec) own started (by kernel_rfl) Tryd.func4
    (witness_row_at (enc := enc) (C := Tryd.checked) false (laidWorld os) #[.agg #[.int .u8 0, .int .u8 0, .int .u8 0], .agg #[.int .u8 0, .int .u8 0, .int .u8 0], .agg #[.int .u8 0, .int .u8 0]] rfl (by kernel_rfl) (by kernel_rfl) (by kernel_rfl)
      (OpenSpec.preRow_of_cond 8 hx (by kernel_rfl) (fun k hk => by cases hk) (by kernel_rfl) (laid_met os))) ?_
  intro W base args ds gs before hval hW _ _ hsz _ _ _
  exact contract H enc W base args ds gs before hval hW hsz
theorem said : Rows.PlanAllSaid :=
  OpenClaim.holds_of_cond 4 Tryd.f4 rfl rfl rfl rfl rfl rfl rfl ⟨rfl, rfl, rfl, rfl, rfl⟩ rfl rfl rfl rfl rfl (by kernel_rfl) Tryd.func4 (by kernel_rfl)
    (of_decide_eq_true (by kernel_rfl)) (by unfold Func.isWrapper; first | (rw [if_pos (by decide +kernel)]; kernel_rfl) | (rw [if_neg (by decide +kernel)]; exact ⟨rfl, rfl⟩))
    (fun os started H enc _ F => by rw [OpenClaim.pre_eq_preRow]; exact lifted os started H enc F)
theorem plain (f : FuncId) (fn : Func) (hf : Tryd.pinned.checked.prog.funcNamed "gambrel/gambrellaw22.PlanAll" = some f) (hfn : Tryd.pinned.checked.prog.funcs[f]? = some fn) :
    false = Tryd.pinned.checked.prog.looks [] ∧ ∀ (j : Nat) t, fn.params[j]? = some t → Tryd.pinned.checked.prog.wantsStandIn t = false := by
  obtain rfl : f = 4 := Option.some.inj ((show Tryd.prog.funcNamed "gambrel/gambrellaw22.PlanAll" = some 4 by kernel_rfl).symm.trans hf) |>.symm
  obtain rfl : fn = Tryd.f4 := (Option.some.inj (Tryd.func4.symm.trans hfn)).symm
  refine ⟨by kernel_rfl, fun j t ht => ?_⟩
  rw [Tryd.params4] at ht
  have ht' : t ∈ ([39, 39, 40] : List TypeId) := by simpa using Array.mem_of_getElem? ht
  simp only [List.mem_cons, List.mem_nil_iff, or_false] at ht'
  rcases ht' with rfl | rfl | rfl
  · exact (show Tryd.prog.wantsStandIn 39 = false by kernel_rfl)
  · exact (show Tryd.prog.wantsStandIn 39 = false by kernel_rfl)
  · exact (show Tryd.prog.wantsStandIn 40 = false by kernel_rfl)
theorem card : Rows.PlanAllCardSaid :=
  Claim7.holds_tied_plain_at .later [] _ _ _ _ said (fun _ h => by cases h) (by kernel_rfl) (fun _ h => by cases h) planAll_row_tie rfl ⟨rfl, rfl⟩ (by kernel_rfl) rfl plain (by kernel_rfl)
#print axioms card
end Go.Proofs.YtlapjnaaihpeeaaDoor.planAll
namespace Go.Proofs.YtlapjnaaihpeeaaDoor
/-- The statement, under a short name, for the claim. -/
theorem planAll_holds : Rows.PlanAllCardSaid := planAll.card
end Go.Proofs.YtlapjnaaihpeeaaDoor
