-- WRITTEN BY this work's own program (wip/tools/xprint.py). Not trusted: Lean checks it.
import Derived.Test.YtlapjnaaihpeeaaDoorXPl0
import Derived.Maps.OwnSet
import Derived.Maps.Views
namespace Go.Proofs.YtlapjnaaihpeeaaDoor.XPl
open Go.RowKit Go.Proofs.YtlapjnaaihpeeaaDoorW.PrintWords Go.Proofs.YtlapjnaaihpeeaaDoorW.PrintLast Go.Proofs.YtlapjnaaihpeeaaDoorW.PrintMore
attribute [local go_sem] max2_int min2_int max_two min_two max_three min_three max_four min_four   -- for this text's walks alone
set_option linter.unusedVariables false
set_option linter.unusedSimpArgs false

/-! where a string stands in a list, the last time; a map that tells it -/
def ix (l : List ByteArray) (s : ByteArray) : Option Nat := l.zipIdx.foldl (fun acc p => if p.1 = s then some p.2 else acc) none
theorem ix_nil (s : ByteArray) : ix [] s = none := rfl
theorem ix_snoc (l : List ByteArray) (x s : ByteArray) : ix (l ++ [x]) s = if x = s then some l.length else ix l s := by
  unfold ix
  rw [List.zipIdx_append, List.foldl_append]
  simp
theorem ix_lt : ∀ (n : Nat) {l : List ByteArray} {s : ByteArray} {i : Nat}, l.length = n → ix l s = some i → i < l.length
  | 0, l, s, i, hl, h => by
    obtain rfl := List.eq_nil_of_length_eq_zero hl
    simp [ix_nil] at h
  | n + 1, l, s, i, hl, h => by
    rcases List.eq_nil_or_concat l with rfl | ⟨l', x, rfl⟩
    · simp at hl
    · rw [List.concat_eq_append, ix_snoc] at h
      simp at hl
      split at h
      · simp at h ⊢; omega
      · have := ix_lt n hl h; simp; omega
def MapIx (P : Program) (k e : TypeId) (w : World) (B : Nat) (l : List ByteArray) : Prop :=
  ∃ D : DataW Unit, w.ownsMap P k (plainElem P e) B l.length D ∧ Maps.IsMap D ∧
    ∀ s : ByteArray, Maps.has D (.string s.data.toList) = (ix l s).isSome ∧ D.atKey (.string s.data.toList) (.lit (.int .i64 0)) = .lit (.int .i64 ((ix l s).getD 0 : Nat))
theorem bytes_ext {a b : ByteArray} (h : a.data.toList = b.data.toList) : a = b := by
  cases a; cases b; simp at h; simp [h]
theorem MapIx.made (P : Program) (k e : TypeId) (w : World) : MapIx P k e (w.alloc (.map #[] 0)) w.heap.size [] :=
  ⟨.map [], World.ownsMap_made w P k _, Maps.isMap_empty, fun s => ⟨rfl, rfl⟩⟩
theorem MapIx.put {P : Program} {k e : TypeId} {w : World} {B : Nat} {l : List ByteArray} {D : DataW Unit} {x : ByteArray}
    (hm : Maps.IsMap D) (hd : ∀ s : ByteArray, Maps.has D (.string s.data.toList) = (ix l s).isSome ∧ D.atKey (.string s.data.toList) (.lit (.int .i64 0)) = .lit (.int .i64 ((ix l s).getD 0 : Nat)))
    (h : w.ownsMap P k (plainElem P e) B (l.length + 1) (D.put (.string x.data.toList) (.lit (.int .i64 (l.length : Nat))))) : MapIx P k e w B (l ++ [x]) := by
  refine ⟨_, by simpa using h, hm.put _ _, fun s => ?_⟩
  rw [ix_snoc]
  by_cases hx : x = s
  · subst hx
    rw [if_pos rfl, Maps.has_put_same hm (by trivial), Maps.atKey_put_same hm (by trivial)]
    exact ⟨rfl, rfl⟩
  · rw [if_neg hx]
    have hne : (Lit.string s.data.toList) ≠ .string x.data.toList := fun h => hx (bytes_ext (by injection h with h; exact h.symm))
    rw [Maps.has_put_other hne, Maps.atKey_put_other hne]
    exact hd s
theorem MapIx.below {P : Program} {k e : TypeId} {w w1 : World} {B : Nat} {l : List ByteArray} (h : MapIx P k e w B l) (hb : Below w.heap.size w w1) : MapIx P k e w1 B l := by
  obtain ⟨D, ho, r⟩ := h
  exact ⟨D, ho.kept (grown_of_below hb none) (by simp), r⟩
theorem MapIx.lt {P : Program} {k e : TypeId} {w : World} {B : Nat} {l : List ByteArray} (h : MapIx P k e w B l) : B < w.heap.size := by
  obtain ⟨D, ho, r⟩ := h
  exact ho.lt

end Go.Proofs.YtlapjnaaihpeeaaDoor.XPl
