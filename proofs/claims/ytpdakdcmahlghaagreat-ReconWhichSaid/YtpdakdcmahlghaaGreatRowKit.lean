/- Lemmas of this work: what a parameter's value is, out of what the row's form says of it. -/
import Derived.WideShapes
import Derived.WalkKit
import Derived.ProofKit
import Derived.SizedLaws
namespace Go.Proofs.YtpdakdcmahlghaaGreat.RowKit
open Go Go.RowKit
section
variable {P : Program} {w : World} {r : Reach} {base : Nat} {t u : TypeId} {v : Value}
theorem open_agg (hst : (match P.underlying t with | some (.struct _) => true | some (.array _ _) => true | _ => false) = true) {ts : List TypeId} (hts : P.cellTypes P.depth t = some ts) (hC : P.cellsOf t = ts.length)
    (hv : Value.okWide P w r base t v) : ∃ cs : List Value, v = .agg cs.toArray ∧ cs.length = ts.length ∧ ∀ (i : Nat) (c : Value), cs[i]? = some c → ∃ u, ts[i]? = some u ∧ Cell.okWide P w r base u c := by
  have h : ∃ cs, v = .agg cs ∧ cs.size = P.cellsOf t ∧ Row.okWide P w r base t cs := by
    unfold Value.okWide at hv
    cases hu : P.underlying t with
    | none => rw [hu] at hst; cases hst
    | some d => rw [hu] at hst hv; cases d <;> first | exact hv | cases hst
  obtain ⟨cs, rfl, hsz, ts', hts', _, hc⟩ := h
  rw [hts] at hts'
  obtain rfl := Option.some.inj hts'
  refine ⟨cs.toList, by simp, by simpa using hsz.trans hC, fun i c hi => ?_⟩
  have hlt : i < ts.length := by
    have := (List.getElem?_eq_some_iff.1 hi).1
    rw [← hC, ← hsz]
    simpa using this
  obtain ⟨u, hu, hk⟩ := hc i c (by simpa using hi)
  rw [Nat.mod_eq_of_lt hlt] at hu
  exact ⟨u, hu, hk⟩
theorem cell_int {k : IntKind} (hu : P.underlying u = some (.int k)) (h : Cell.okWide P w r base u v) : ∃ a : Int, v = .int k a ∧ (Lit.int k a).wf = true := by
  unfold Cell.okWide at h
  rw [hu] at h
  have h' : Cell.ok P w r base u v := by cases v <;> exact h
  unfold Cell.ok at h'
  rw [hu] at h'
  cases v <;> simp at h'
  obtain ⟨rfl, h2⟩ := h'
  exact ⟨_, rfl, by simpa [Lit.wf, IntKind.has] using h2⟩
theorem cell_bool (hu : P.underlying u = some .bool) (h : Cell.okWide P w r base u v) : ∃ a : Bool, v = .bool a := by
  unfold Cell.okWide at h
  rw [hu] at h
  have h' : Cell.ok P w r base u v := by cases v <;> exact h
  unfold Cell.ok at h'
  rw [hu] at h'
  cases v <;> simp at h'
  exact ⟨_, rfl⟩
end
end Go.Proofs.YtpdakdcmahlghaaGreat.RowKit
