-- Joined by this work's own program (wip/tools/bundle.py) out of its texts: what this claim uses of them. Not trusted: Lean checks it.
import Derived.Lib.SlBytesConst
import Derived.Test.YtpdakdcmahlghaaGreatBTrialNone12
section
namespace Go.Proofs.YtpdakdcmahlghaaGreat.XCo
open Go.RowKit Go.Proofs.YtpdakdcmahlghaaGreatW.PrintWords Go.Proofs.YtpdakdcmahlghaaGreatW.PrintLast Go.Proofs.YtpdakdcmahlghaaGreatW.PrintMore
attribute [local go_sem] aDz aEz aLz aMz auz avz aFz aGz
set_option linter.unusedVariables false
set_option linter.unusedSimpArgs false
def fN (wb : Int) : Nat := if wb = 8 then 256 else 65536
theorem fN_fsize {wb : Int} (hw : wb = 8 ∨ wb = 16) : fsize wb = (fN wb : Int) := by rcases hw with rfl | rfl <;> rfl
theorem gmul_cast {wb a b : Int} (ha : 0 ≤ a ∧ a < fsize wb) (hb : 0 ≤ b ∧ b < fsize wb) : gmul wb a b = (gmN wb a.toNat b.toNat : Int) := by
 unfold gmul inF
 rw [if_pos (by simp [ha.1, ha.2, hb.1, hb.2])]
theorem cIz {wb a b : Int} (ha : 0 ≤ a ∧ a < fsize wb) (hb : 0 ≤ b ∧ b < fsize wb) : (gmul wb a b).toNat = gmN wb a.toNat b.toNat := by
 rw [gmul_cast ha hb, Int.toNat_natCast]
section
variable {wb : Int} (hw : wb = 8 ∨ wb = 16)
include hw
theorem bEz : ∃ (m q : Nat) (l : List Nat), GfInv m q l ∧ fN wb = 2 ^ (m + 1) ∧ ∀ a b, gmN wb a b = gm m q a b := by
 rcases hw with rfl | rfl
 ·exact ⟨7, 285, _, gf8, rfl, fun a b => rfl⟩
 ·exact ⟨15, 69643, _, gf16, rfl, fun a b => rfl⟩
theorem gmN_ltN {a : Nat} (b : Nat) (ha : a < fN wb) : gmN wb a b < fN wb := by
 obtain ⟨m, q, l, F, e, h⟩ := bEz hw
 rw [h, e]
 exact F.lt (by rw [← e]; exact ha)
theorem gmN_xl {a c : Nat} (b : Nat) (ha : a < fN wb) (hc : c < fN wb) : gmN wb (a ^^^ c) b = gmN wb a b ^^^ gmN wb c b := by
 obtain ⟨m, q, l, F, e, h⟩ := bEz hw
 rw [e] at ha hc
 rw [h, h, h]
 exact F.bVz ha hc
theorem gmN_xr (a b c : Nat) : gmN wb a (b ^^^ c) = gmN wb a b ^^^ gmN wb a c := by
 obtain ⟨m, q, l, F, e, h⟩ := bEz hw
 rw [h, h, h]
 exact Gf.bZz a b c
theorem gmN_comm {a b : Nat} (ha : a < fN wb) (hb : b < fN wb) : gmN wb a b = gmN wb b a := by
 obtain ⟨m, q, l, F, e, h⟩ := bEz hw
 rw [e] at ha hb
 rw [h, h]
 exact F.comm ha hb
theorem gmN_asc {a b : Nat} (ha : a < fN wb) (hb : b < fN wb) (c : Nat) : gmN wb (gmN wb a b) c = gmN wb a (gmN wb b c) := by
 obtain ⟨m, q, l, F, e, h⟩ := bEz hw
 rw [e] at ha hb
 rw [h, h, h, h]
 exact F.assoc ha hb c
theorem gmN_id {a : Nat} (ha : a < fN wb) : gmN wb a 1 = a := by
 obtain ⟨m, q, l, F, e, h⟩ := bEz hw
 rw [e] at ha
 rw [h]
 exact F.one_right ha
theorem one_ltN : 1 < fN wb := by rcases hw with rfl | rfl <;> decide
theorem gmN_idl {a : Nat} (ha : a < fN wb) : gmN wb 1 a = a := by rw [gmN_comm hw (one_ltN hw) ha, gmN_id hw ha]
theorem gmN_zl (a : Nat) : gmN wb 0 a = 0 := by
 obtain ⟨m, q, l, F, e, h⟩ := bEz hw
 rw [h]
 exact Gf.zero_left a
theorem bKz (a : Nat) : gmN wb a 0 = 0 := by
 obtain ⟨m, q, l, F, e, h⟩ := bEz hw
 rw [h]
 exact Gf.zero_right a
theorem xor_ltN {a b : Nat} (ha : a < fN wb) (hb : b < fN wb) : a ^^^ b < fN wb := by
 obtain ⟨m, q, l, F, e, h⟩ := bEz hw
 rw [e] at ha hb ⊢
 exact Nat.xor_lt_two_pow ha hb
theorem a4z {a : Int} (ha : 0 ≤ a ∧ a < fsize wb) : a.toNat < fN wb := by
 have := fN_fsize hw
 omega
theorem bx_toNat {a b : Int} (ha : 0 ≤ a ∧ a < fsize wb) (hb : 0 ≤ b ∧ b < fsize wb) : (Go.bits .xor .i64 a b).toNat = a.toNat ^^^ b.toNat := by
 obtain ⟨x, rfl⟩ : ∃ x : Nat, a = x := ⟨a.toNat, by omega⟩
 obtain ⟨y, rfl⟩ : ∃ y : Nat, b = y := ⟨b.toNat, by omega⟩
 rcases coz hw with ⟨e, -⟩ | ⟨e, -⟩ <;> rw [e] at ha hb
 ·rw [ccz x y (by omega) (by omega)]; simp
 ·rw [ccz x y (by omega) (by omega)]; simp
theorem gmN_inv {a : Nat} (ha : a < fN wb) (h0 : a ≠ 0) : gmN wb a (ginv wb (a : Int)).toNat = 1 := by
 have e : (ginv wb (a : Int)).toNat = gpwN wb a (fsize wb - 2).toNat := by
  have hin : inF wb (a : Int) = true := by
   unfold inF
   rw [decide_eq_true (by omega), decide_eq_true (by rw [fN_fsize hw]; omega)]
   rfl
  have hb : ((a : Int) != 0) = true := by simpa using h0
  have hf : decide ((0 : Int) ≤ fsize wb - 2) = true := by rcases hw with rfl | rfl <;> rfl
  unfold ginv
  rw [hin, hb, if_pos (by decide)]
  unfold gpow
  rw [hin, hf, if_pos (by decide), Int.toNat_natCast, Int.toNat_natCast]
 rw [e]
 rcases hw with rfl | rfl
 ·exact gf8.inv_left (m := 7) (by exact ha) h0
 ·exact gf16.inv_left (m := 15) (by exact ha) h0
end
theorem xor4 (a b c d : Nat) : (a ^^^ b) ^^^ (c ^^^ d) = (a ^^^ c) ^^^ (b ^^^ d) := by
 rw [Nat.xor_assoc, Nat.xor_assoc, ← Nat.xor_assoc b, ← Nat.xor_assoc c, Nat.xor_comm b]
def evN (wb : Int) : List Int → List Nat → Nat
 | x :: r, y :: v => gmN wb x.toNat y ^^^ evN wb r v
 | _, _ => 0
section
variable {wb : Int} (hw : wb = 8 ∨ wb = 16)
include hw
theorem evN_clr {n : Int} (hn : 0 ≤ n ∧ n < fsize wb) : ∀ (r p : List Int) (v : List Nat), r.length = p.length → (∀ x, x ∈ r → 0 ≤ x ∧ x < fsize wb) → (∀ x, x ∈ p → 0 ≤ x ∧ x < fsize wb) →
  evN wb (List.zipWith (clrF wb n) r p) v = evN wb r v ^^^ gmN wb n.toNat (evN wb p v)
 | [], [], v, _, _, _ => by simp [evN, bKz hw]
 | [], _ :: _, _, h, _, _ => by simp at h
 | _ :: _, [], _, h, _, _ => by simp at h
 | x :: r, y :: p, [], _, _, _ => by simp [evN, bKz hw]
 | x :: r, y :: p, z :: v, h, hr, hp => by
  have ih := evN_clr hn r p v (by simpa using h) (fun x hx => hr x (List.mem_cons_of_mem _ hx)) (fun x hx => hp x (List.mem_cons_of_mem _ hx))
  have hx := hr x (List.mem_cons_self ..)
  have hy := hp y (List.mem_cons_self ..)
  show gmN wb (clrF wb n x y).toNat z ^^^ evN wb (List.zipWith (clrF wb n) r p) v = (gmN wb x.toNat z ^^^ evN wb r v) ^^^ gmN wb n.toNat (gmN wb y.toNat z ^^^ evN wb p v)
  have e : (clrF wb n x y).toNat = x.toNat ^^^ gmN wb n.toNat y.toNat := by
   unfold clrF
   rw [bx_toNat hw hx (a6z hw _ _), cIz hn hy]
  rw [ih, e, gmN_xl hw z (a4z hw hx) (gmN_ltN hw _ (a4z hw hn)), gmN_asc hw (a4z hw hn) (a4z hw hy), gmN_xr hw, xor4]
theorem evN_scl {c : Int} (hc : 0 ≤ c ∧ c < fsize wb) : ∀ (p : List Int) (v : List Nat), (∀ x, x ∈ p → 0 ≤ x ∧ x < fsize wb) →
  evN wb (List.zipWith (fun x _ => gmul wb x c) p p) v = gmN wb c.toNat (evN wb p v)
 | [], v, _ => by simp [evN, bKz hw]
 | x :: p, [], _ => by simp [evN, bKz hw]
 | x :: p, z :: v, hp => by
  have ih := evN_scl hc p v (fun x hx => hp x (List.mem_cons_of_mem _ hx))
  have hx := hp x (List.mem_cons_self ..)
  show gmN wb (gmul wb x c).toNat z ^^^ evN wb (List.zipWith (fun x _ => gmul wb x c) p p) v = gmN wb c.toNat (gmN wb x.toNat z ^^^ evN wb p v)
  rw [ih, cIz hx hc, gmN_xr hw, gmN_comm hw (a4z hw hx) (a4z hw hc), gmN_asc hw (a4z hw hc) (a4z hw hx)]
theorem evN_off : ∀ (r : List Int) (v : List Nat), (∀ j, j < v.length → r.getD j 0 = 0 ∨ v.getD j 0 = 0) → evN wb r v = 0
 | [], v, _ => rfl
 | x :: r, [], _ => rfl
 | x :: r, y :: v, h => by
  have ih := evN_off r v (fun j hj => by simpa using h (j + 1) (by simpa using hj))
  have h0 := h 0 (by simp)
  show gmN wb x.toNat y ^^^ evN wb r v = 0
  rw [ih]
  rcases h0 with h0 | h0
  ·have : x = 0 := by simpa using h0
   rw [this]; simp [gmN_zl hw]
  ·have : y = 0 := by simpa using h0
   rw [this]; simp [bKz hw]
theorem evN_two : ∀ (r : List Int) (v : List Nat) (i c : Nat), i < c → c < v.length → r.getD i 0 = 1 → v.getD c 0 = 1 → (v.getD i 0 = (r.getD c 0).toNat) → (0 ≤ r.getD c 0 ∧ r.getD c 0 < fsize wb) → (∀ j, j < v.length → j ≠ i → j ≠ c → r.getD j 0 = 0 ∨ v.getD j 0 = 0) → evN wb r v = 0
 | [], v, i, c, _, _, h1, _, _, _, _ => by simp at h1
 | x :: r, [], i, c, _, h, _, _, _, _, _ => by simp at h
 | x :: r, y :: v, 0, c + 1, _, hc, h1, h2, h3, h4, h => by
  have e1 : x = 1 := by simpa using h1
  have e2 : v.getD c 0 = 1 := by simpa using h2
  have e3 : y = (r.getD c 0).toNat := by simpa using h3
  have e4 : 0 ≤ r.getD c 0 ∧ r.getD c 0 < fsize wb := by simpa using h4
  have hlt := a4z hw e4
  show gmN wb x.toNat y ^^^ evN wb r v = 0
  have key : ∀ (r : List Int) (v : List Nat) (c : Nat), c < v.length → v.getD c 0 = 1 → (0 ≤ r.getD c 0 ∧ r.getD c 0 < fsize wb) → (∀ j, j < v.length → j ≠ c → r.getD j 0 = 0 ∨ v.getD j 0 = 0) → evN wb r v = (r.getD c 0).toNat := by
   intro r
   induction r with
   | nil => intro v c _ _ _ _; simp [evN]
   | cons x r ih =>
    intro v c hc h1 h2 h
    cases v with
    | nil => simp at hc
    | cons y v =>
     cases c with
     | zero =>
      have := evN_off hw r v (fun j hj => by simpa using h (j + 1) (by simpa using hj) (by omega))
      have hy : y = 1 := by simpa using h1
      have hx : 0 ≤ x ∧ x < fsize wb := by simpa using h2
      show gmN wb x.toNat y ^^^ evN wb r v = _
      rw [this, hy, gmN_id hw (a4z hw hx), Nat.xor_zero]
      simp
     | succ c =>
      have ih := ih v c (by simpa using hc) (by simpa using h1) (by simpa using h2) (fun j hj hne => by simpa using h (j + 1) (by simpa using hj) (by omega))
      have h0 := h 0 (by simp) (by omega)
      show gmN wb x.toNat y ^^^ evN wb r v = _
      rw [ih]
      rcases h0 with h0 | h0
      ·have : x = 0 := by simpa using h0
       rw [this]
       show gmN wb 0 y ^^^ _ = _
       rw [gmN_zl hw, Nat.zero_xor]
       simp
      ·have : y = 0 := by simpa using h0
       rw [this, bKz hw, Nat.zero_xor]
       simp
  rw [key r v c (by simpa using hc) e2 e4 (fun j hj hne => by simpa using h (j + 1) (by simpa using hj) (by omega) (by omega)), e1, e3]
  show gmN wb 1 _ ^^^ _ = 0
  rw [gmN_idl hw hlt, Nat.xor_self]
 | x :: r, y :: v, i + 1, c + 1, hic, hc, h1, h2, h3, h4, h => by
  have ih := evN_two r v i c (by omega) (by simpa using hc) (by simpa using h1) (by simpa using h2) (by simpa using h3) (by simpa using h4) (fun j hj hne hnc => by simpa using h (j + 1) (by simpa using hj) (by omega) (by omega))
  have h0 := h 0 (by simp) (by omega) (by omega)
  show gmN wb x.toNat y ^^^ evN wb r v = 0
  rw [ih]
  rcases h0 with h0 | h0
  ·have : x = 0 := by simpa using h0
   rw [this]
   show gmN wb 0 y ^^^ _ = _
   rw [gmN_zl hw, Nat.zero_xor]
  ·have : y = 0 := by simpa using h0
   rw [this, bKz hw, Nat.zero_xor]
 | x :: r, y :: v, i, 0, hic, _, _, _, _, _, _ => by omega
end
theorem idxF_at' {α : Type} (p : α → Bool) : ∀ (l : List α), ¬ idxF p l < 0 → ∃ x, l[(idxF p l).toNat]? = some x ∧ p x = true
 | [], h => by simp [idxF] at h
 | y :: l, h => by
  have h1 := b5z p l
  unfold idxF at h ⊢
  by_cases hp : p y = true
  ·rw [if_pos hp]; exact ⟨y, by simp, hp⟩
  ·rw [if_neg hp] at h ⊢
   by_cases hn : idxF p l < 0
   ·rw [if_pos hn] at h; omega
   ·rw [if_neg hn]
    obtain ⟨x, hx, hpx⟩ := idxF_at' p l hn
    refine ⟨x, ?_, hpx⟩
    rw [show (idxF p l + 1).toNat = (idxF p l).toNat + 1 by omega, List.getElem?_cons_succ]
    exact hx
theorem evN_lt {wb : Int} (hw : wb = 8 ∨ wb = 16) : ∀ (r : List Int) (v : List Nat), (∀ x, x ∈ r → 0 ≤ x ∧ x < fsize wb) → evN wb r v < fN wb
 | [], _, _ => by have := one_ltN hw; simp only [evN]; omega
 | _ :: _, [], _ => by have := one_ltN hw; simp only [evN]; omega
 | x :: r, y :: v, h => xor_ltN hw (gmN_ltN hw _ (a4z hw (h x (List.mem_cons_self ..)))) (evN_lt hw r v (fun z hz => h z (List.mem_cons_of_mem _ hz)))
structure RI (wb : Int) (n : Nat) (u b : List Nat) (c : Nat) (W : List (List Int)) : Prop where
 len : W.length = n
 good : ∀ r, r ∈ W → Good wb (n + n) r
 zero : ∀ r, r ∈ W → evN wb r (u ++ b) = 0
 unit : ∀ i r, W[i]? = some r → ∀ j, j < c → r.getD j 0 = if i = j then 1 else 0
 inj : ∀ v : List Nat, v.length = n → (∀ x, x ∈ v → x < fN wb) → (∀ r, r ∈ W → evN wb r v = 0) → ∀ x, x ∈ v → x = 0
theorem bFz {wb : Int} {L : Nat} {r : List Int} (h : Good wb L r) (j : Nat) : 0 ≤ r.getD j 0 ∧ r.getD j 0 < fsize wb := by
 rw [List.getD_eq_getElem?_getD]
 cases e : r[j]? with
 | none => exact ⟨Int.le_refl _, by show (0 : Int) < _; unfold fsize; split <;> omega⟩
 | some x => exact h.2 x (List.mem_of_getElem? e)
theorem getD_zip (f : Int → Int → Int) (hf : f 0 0 = 0) : ∀ (r p : List Int) (j : Nat), r.length = p.length → (List.zipWith f r p).getD j 0 = f (r.getD j 0) (p.getD j 0)
 | [], [], j, _ => by simp [hf]
 | [], _ :: _, _, h => by simp at h
 | _ :: _, [], _, h => by simp at h
 | x :: r, y :: p, 0, _ => by simp
 | x :: r, y :: p, j + 1, h => by simpa using getD_zip f hf r p j (by simpa using h)
theorem cYz {a b : Int} (ha : 0 ≤ a) (hb : 0 ≤ b) (h : a.toNat = b.toNat) : a = b := by omega
section
variable {wb : Int} (hw : wb = 8 ∨ wb = 16)
include hw
theorem RI.pivot {n c : Nat} {u b : List Nat} {W : List (List Int)} (h : RI wb n u b c W) (hc : c < n) : ¬ idxF (nzB c) (W.drop c) < 0 := by
 intro hneg
 have hany := (b5z (nzB c) (W.drop c)).2.2.1 hneg
 have hz : ∀ i r, W[i]? = some r → c ≤ i → r.getD c 0 = 0 := by
  intro i r hr hi
  have h1 := List.any_eq_false.1 hany r (List.mem_iff_getElem?.2 ⟨i - c, by rw [List.getElem?_drop, show c + (i - c) = i by omega]; exact hr⟩)
  simpa [nzB] using h1
 obtain ⟨v, hv⟩ : ∃ v : List Nat, v = (List.range n).map (fun j => if j < c then ((W.getD j []).getD c 0).toNat else if j = c then 1 else 0) := ⟨_, rfl⟩
 have vlen : v.length = n := by rw [hv]; simp
 have vat : ∀ j, j < n → v.getD j 0 = if j < c then ((W.getD j []).getD c 0).toNat else if j = c then 1 else 0 := by
  intro j hj
  rw [hv, List.getD_eq_getElem?_getD]
  simp [hj]
 have hin : ∀ x, x ∈ v → x < fN wb := by
  intro x hx
  rw [hv] at hx
  obtain ⟨j, hj, rfl⟩ := List.mem_map.1 hx
  have hj : j < n := by simpa using hj
  have p1 := one_ltN hw
  split
  ·obtain ⟨r, hr⟩ : ∃ r, W[j]? = some r := ⟨_, List.getElem?_eq_getElem (by rw [h.len]; exact hj)⟩
   have hWr : W.getD j [] = r := by rw [List.getD_eq_getElem?_getD, hr]; rfl
   rw [hWr]
   exact a4z hw (bFz (h.good r (List.mem_of_getElem? hr)) c)
  ·split <;> omega
 have hall := h.inj v vlen hin (by
  intro r hr
  obtain ⟨i, hi⟩ := List.mem_iff_getElem?.1 hr
  have hil := (List.getElem?_eq_some_iff.1 hi).1
  rw [h.len] at hil
  by_cases hic : i < c
  ·refine evN_two hw r v i c hic (by omega) (by rw [h.unit i r hi i hic, if_pos rfl]) (by rw [vat c hc, if_neg (Nat.lt_irrefl _), if_pos rfl]) (by
    have hWr : W.getD i [] = r := by rw [List.getD_eq_getElem?_getD, hi]; rfl
    rw [vat i hil, if_pos hic, hWr]) (bFz (h.good r hr) c) ?_
   intro j hj hji hjc
   by_cases hjl : j < c
   ·exact .inl (by rw [h.unit i r hi j hjl, if_neg (Ne.symm hji)])
   ·exact .inr (by rw [vat j (by omega), if_neg hjl, if_neg hjc])
  ·refine evN_off hw r v ?_
   intro j hj
   by_cases hjl : j < c
   ·exact .inl (by rw [h.unit i r hi j hjl, if_neg (by omega)])
   ·by_cases hjc : j = c
    ·exact .inl (by rw [hjc]; exact hz i r hi (by omega))
    ·exact .inr (by rw [vat j (by omega), if_neg hjl, if_neg hjc]))
 have h1 : v.getD c 0 = 1 := by rw [vat c hc, if_neg (Nat.lt_irrefl _), if_pos rfl]
 have h2 : v.getD c 0 = 0 := by
  rw [List.getD_eq_getElem?_getD, List.getElem?_eq_getElem (by omega)]
  exact hall _ (List.getElem_mem _)
 omega
theorem RI.step {n c : Nat} {u b : List Nat} {W : List (List Int)} (h : RI wb n u b c W) (hc : c < n) : RI wb n u b (c + 1) (redStep wb c W c).1 ∧ (redStep wb c W c).2 = c + 1 := by
 have hp := h.pivot hw hc
 have hg := dzz hw (n + n) c W c h.good
 revert hg
 unfold redStep
 have hat := idxF_at' (nzB c) (W.drop c) hp
 have hz := b5z (nzB c) (W.drop c)
 generalize idxF (nzB c) (W.drop c) = z at *
 dsimp only
 rw [if_neg hp]
 obtain ⟨pr, hpr, hnz⟩ := hat
 rw [List.getElem?_drop] at hpr
 obtain ⟨k, hk⟩ : ∃ k, c + z.toNat = k := ⟨_, rfl⟩
 rw [hk] at hpr ⊢
 have hkc : c ≤ k := by omega
 obtain ⟨q, hq⟩ : ∃ q, W[c]? = some q := ⟨_, List.getElem?_eq_getElem (by rw [h.len]; exact hc)⟩
 have hsw := bOz W c k q pr hq hpr
 have hsl := bNz W c k
 have hsm := swapL_mem W c k
 generalize swapL W c k = R at *
 have hRc : R[c]? = some pr := by
  rw [hsw]
  by_cases hck : c = k
  ·rw [if_pos hck]; subst hck; rw [← hq, hpr]
  ·rw [if_neg hck, if_pos rfl]
 have hRcD : R.getD c [] = pr := by rw [List.getD_eq_getElem?_getD, hRc]; rfl
 rw [hRcD]
 have hgp := h.good pr (List.mem_of_getElem? hpr)
 have hpc := bFz hgp c
 have hpc0 : pr.getD c 0 ≠ 0 := by simpa [nzB] using hnz
 obtain ⟨a, ha⟩ : ∃ a : Nat, pr.getD c 0 = (a : Int) := ⟨(pr.getD c 0).toNat, by omega⟩
 have haN : a < fN wb := by have := a4z hw hpc; rw [ha] at this; simpa using this
 have hir := dqz hw (pr.getD c 0)
 have hinv := gmN_inv hw haN (by omega)
 rw [← ha] at hinv
 obtain ⟨i, hi⟩ : ∃ i, ginv wb (pr.getD c 0) = i := ⟨_, rfl⟩
 rw [hi] at hir hinv ⊢
 have hiN := a4z hw hir
 obtain ⟨p2, hp2⟩ : ∃ p2, List.zipWith (fun x _ => gmul wb x i) pr pr = p2 := ⟨_, rfl⟩
 have e2 : ∀ v, evN wb p2 v = gmN wb i.toNat (evN wb pr v) := fun v => by rw [← hp2]; exact evN_scl hw hir pr v hgp.2
 have d2 : ∀ j, p2.getD j 0 = gmul wb (pr.getD j 0) i := fun j => by rw [← hp2]; exact getD_zip (fun x _ => gmul wb x i) (cjz _ _) pr pr j rfl
 have hgp2 : Good wb (n + n) p2 := by rw [← hp2]; exact zip_good _ hgp hgp (fun x y _ _ => a6z hw _ _)
 rw [hp2]
 have hset : ∀ i, i ≠ c → (R.set c p2)[i]? = R[i]? := fun i hi => by rw [List.getElem?_set_ne (Ne.symm hi)]
 have hsetc : (R.set c p2)[c]? = some p2 := by rw [List.getElem?_set_self (by rw [hsl, h.len]; exact hc)]
 have new : ∀ i r, (clrAll wb c c p2 (R.set c p2))[i]? = some r → (i = c ∧ r = p2) ∨ (i ≠ c ∧ ∃ r0, R[i]? = some r0 ∧ r = List.zipWith (clrF wb (r0.getD c 0)) r0 p2) := by
  intro i r hr
  by_cases hic : i = c
  ·subst hic
   rw [bPz _ _ _ _ _ _ p2 hsetc, if_pos rfl] at hr
   exact .inl ⟨rfl, by injection hr with e; exact e.symm⟩
  ·obtain ⟨r0, hr0⟩ : ∃ r0, R[i]? = some r0 := ⟨_, List.getElem?_eq_getElem (by have := (List.getElem?_eq_some_iff.1 hr).1; rw [bez, List.length_set] at this; exact this)⟩
   rw [bPz _ _ _ _ _ _ r0 (by rw [hset i hic]; exact hr0), if_neg hic] at hr
   exact .inr ⟨hic, r0, hr0, by injection hr with e; exact e.symm⟩
 have old : ∀ i r0, R[i]? = some r0 → i ≠ c → List.zipWith (clrF wb (r0.getD c 0)) r0 p2 ∈ clrAll wb c c p2 (R.set c p2) := by
  intro i r0 hr0 hic
  refine List.mem_iff_getElem?.2 ⟨i, ?_⟩
  rw [bPz _ _ _ _ _ _ r0 (by rw [hset i hic]; exact hr0), if_neg hic]
 have oldc : p2 ∈ clrAll wb c c p2 (R.set c p2) := by
  refine List.mem_iff_getElem?.2 ⟨c, ?_⟩
  rw [bPz _ _ _ _ _ _ p2 hsetc, if_pos rfl]
 have goodR : ∀ i r0, R[i]? = some r0 → Good wb (n + n) r0 := fun i r0 hr0 => h.good r0 (hsm r0 (List.mem_of_getElem? hr0))
 have eclr : ∀ (i : Nat) (r0 : List Int) (v : List Nat), R[i]? = some r0 → evN wb (List.zipWith (clrF wb (r0.getD c 0)) r0 p2) v = evN wb r0 v ^^^ gmN wb (r0.getD c 0).toNat (evN wb p2 v) := by
  intro i r0 v hr0
  have hg0 := goodR i r0 hr0
  exact evN_clr hw (bFz hg0 c) r0 p2 v (hg0.1.trans hgp2.1.symm) hg0.2 hgp2.2
 have prz : ∀ j, j < c → pr.getD j 0 = 0 := fun j hj => by rw [h.unit k pr hpr j hj, if_neg (by omega)]
 have p2z : ∀ j, j < c → p2.getD j 0 = 0 := fun j hj => by rw [d2, prz j hj, cjz]
 have p2c : p2.getD c 0 = 1 := by
  refine cYz (bFz hgp2 c).1 (by omega) ?_
  rw [d2, cIz hpc hir, ha]
  simpa using hinv
 have Runit : ∀ i r0, R[i]? = some r0 → i ≠ c → ∀ j, j < c → r0.getD j 0 = if i = j then 1 else 0 := by
  intro i r0 hr0 hic j hj
  rw [hsw] at hr0
  by_cases hik : i = k
  ·rw [if_pos hik] at hr0
   injection hr0 with e
   subst e
   rw [h.unit c q hq j hj, if_neg (by omega), if_neg (by omega)]
  ·rw [if_neg hik, if_neg hic] at hr0
   exact h.unit i r0 hr0 j hj
 have Rall : ∀ r, r ∈ W → r = pr ∨ ∃ i, i ≠ c ∧ R[i]? = some r := by
  intro r hr
  obtain ⟨i, hi⟩ := List.mem_iff_getElem?.1 hr
  by_cases hik : i = k
  ·subst hik; rw [hpr] at hi; injection hi with e; exact .inl e.symm
  ·by_cases hic : i = c
   ·rw [hic, hq] at hi
    injection hi with e
    subst e
    exact .inr ⟨k, fun e => hik (hic.trans e.symm), by rw [hsw, if_pos rfl]⟩
   ·exact .inr ⟨i, hic, by rw [hsw, if_neg hik, if_neg hic]; exact hi⟩
 intro hg
 refine ⟨⟨hg.2.trans h.len, hg.1, ?_, ?_, ?_⟩, rfl⟩
 ·intro r hr
  obtain ⟨i, hi⟩ := List.mem_iff_getElem?.1 hr
  have z2 : evN wb p2 (u ++ b) = 0 := by rw [e2, h.zero pr (List.mem_of_getElem? hpr), bKz hw]
  rcases new i r hi with ⟨-, rfl⟩ | ⟨-, r0, hr0, rfl⟩
  ·exact z2
  ·rw [eclr i r0 _ hr0, z2, bKz hw, h.zero r0 (hsm r0 (List.mem_of_getElem? hr0))]
   rfl
 ·intro i r hr j hj
  rcases new i r hr with ⟨rfl, rfl⟩ | ⟨hic, r0, hr0, rfl⟩
  ·by_cases hji : j = i
   ·subst hji; rw [p2c, if_pos rfl]
   ·rw [p2z j (by omega), if_neg (fun e => hji e.symm)]
  ·have hg0 := goodR i r0 hr0
   have hc0 := bFz hg0 c
   rw [getD_zip _ (by unfold clrF; rw [c1z]; rfl) r0 p2 j (hg0.1.trans hgp2.1.symm)]
   have hd := bFz hg0 j
   have hd2 := bFz hgp2 j
   have key : (clrF wb (r0.getD c 0) (r0.getD j 0) (p2.getD j 0)).toNat = (r0.getD j 0).toNat ^^^ gmN wb (r0.getD c 0).toNat (p2.getD j 0).toNat := by
    unfold clrF
    rw [bx_toNat hw hd (a6z hw _ _), cIz hc0 hd2]
   have hrng : 0 ≤ clrF wb (r0.getD c 0) (r0.getD j 0) (p2.getD j 0) := by unfold clrF; exact (c5z hw hd (a6z hw _ _)).1
   by_cases hjc : j = c
   ·subst hjc
    rw [if_neg hic]
    refine cYz hrng (by omega) ?_
    rw [key, p2c]
    show _ ^^^ gmN wb _ 1 = 0
    rw [gmN_id hw (a4z hw hd), Nat.xor_self]
   ·have hjl : j < c := by omega
    refine cYz hrng (by split <;> omega) ?_
    rw [key, p2z j hjl]
    show _ ^^^ gmN wb _ 0 = _
    rw [bKz hw, Nat.xor_zero, Runit i r0 hr0 hic j hjl]
 ·intro v hv hin hz0
  refine h.inj v hv hin ?_
  have z2 : evN wb p2 v = 0 := hz0 p2 oldc
  intro r hr
  rcases Rall r hr with rfl | ⟨i, hic, hi⟩
  ·have h1 : gmN wb a (evN wb p2 v) = 0 := by rw [z2, bKz hw]
   have e3 : gmN wb a i.toNat = 1 := hinv
   rw [e2, ← gmN_asc hw haN hiN, e3] at h1
   rwa [gmN_idl hw (evN_lt hw r v hgp.2)] at h1
  ·have h1 := hz0 _ (old i r hi hic)
   rw [eclr i r v hi, z2, bKz hw, Nat.xor_zero] at h1
   exact h1
theorem RI.all {n : Nat} {u b : List Nat} : ∀ (m c : Nat) (W : List (List Int)), RI wb n u b c W → c + m = n → RI wb n u b n (redF wb m c W c).1 ∧ (redF wb m c W c).2 = n
 | 0, c, W, h, e => by
  have : c = n := by omega
  subst this
  exact ⟨h, rfl⟩
 | m + 1, c, W, h, e => by
  have hs := h.step hw (by omega)
  unfold redF
  rw [if_neg (by rw [h.len]; omega), hs.2]
  exact RI.all m (c + 1) _ hs.1 (by omega)
end
end Go.Proofs.YtpdakdcmahlghaaGreat.XCo
end
section
namespace Go.Proofs.YtpdakdcmahlghaaGreat.XCo
open Go.RowKit Go.Proofs.YtpdakdcmahlghaaGreatW.PrintWords Go.Proofs.YtpdakdcmahlghaaGreatW.PrintLast Go.Proofs.YtpdakdcmahlghaaGreatW.PrintMore
attribute [local go_sem] aDz aEz aLz aMz auz avz aFz aGz
set_option linter.unusedVariables false
set_option linter.unusedSimpArgs false
def unitN (p : Int) : Nat := if p ≤ 2 then 8 else if p ≤ 4 then 16 else 1
def aheadN (p : Int) : Nat := if p = 5 then 4 else 0
theorem rule_eq {p : Int} (h1 : 1 ≤ p) (h2 : p ≤ 6) (k m : Int) : bpz.f p k m = some ((unitN p : Int), (aheadN p : Int)) := by
 have : p = 1 ∨ p = 2 ∨ p = 3 ∨ p = 4 ∨ p = 5 ∨ p = 6 := by omega
 rcases this with rfl | rfl | rfl | rfl | rfl | rfl <;> rfl
theorem w64 {x : Int} (h0 : -1 ≤ x) (h1 : x < 1000000000) : wrap64 x = x := by unfold wrap64; omega
theorem unitN_bd (p : Int) : 1 ≤ unitN p ∧ unitN p ≤ 16 := by unfold unitN; split <;> (try split) <;> omega
theorem aheadN_bd (p : Int) : aheadN p ≤ 4 := by unfold aheadN; split <;> omega
def sizeN (p : Int) (K n : Nat) : Nat := unitN p * max ((n + aheadN p + unitN p * K - 1) / (unitN p * K)) 1
theorem sizeN_le (p : Int) (K n : Nat) (hK : 1 ≤ K) (hK2 : K ≤ 8) (hn : n ≤ 4096) : sizeN p K n ≤ 80000 := by
 have hu := unitN_bd p
 have ha := aheadN_bd p
 have h1 : (n + aheadN p + unitN p * K - 1) / (unitN p * K) ≤ 4300 := by
  have h2 : unitN p * K ≤ 16 * 8 := Nat.mul_le_mul hu.2 hK2
  exact Nat.le_trans (Nat.div_le_self _ _) (by omega)
 unfold sizeN
 exact Nat.le_trans (Nat.mul_le_mul hu.2 (show max ((n + aheadN p + unitN p * K - 1) / (unitN p * K)) 1 ≤ 4300 by omega)) (by omega)
theorem size_ev (p : Int) (K M n : Nat) (hmay : adz.f p (K : Int) (M : Int) = some true) (hn : n ≤ 4096) : Ev (fun k => anz.f k p (K : Int) (M : Int) (n : Int)) ((sizeN p K n : Int), 0) := by
 obtain ⟨p1, p2, k1, k2, m1, m2⟩ := bjz hmay
 have hu := unitN_bd p
 have ha := aheadN_bd p
 have hup : unitN p * K ≤ 16 * 8 := Nat.mul_le_mul hu.2 (by omega)
 have hu1 : 1 ≤ unitN p * K := Nat.mul_pos hu.1 (by omega)
 refine Ev.of (fun k => anz.mono _ _ _ _ k) (k := 1) ?_
 unfold anz.f
 rw [hmay, Option.bind_some, if_pos rfl, show decide ((n : Int) < 0) = false by simp]
 rw [anz.j0]
 rw [if_neg (by decide), if_neg (by omega), rule_eq p1 p2, Option.bind_some]
 have w1 : wrap64 ((unitN p : Int) * (K : Int)) = ((unitN p * K : Nat) : Int) := by
  rw [← Int.natCast_mul]; unfold wrap64; omega
 dsimp only
 rw [w1, if_neg (by omega)]
 have w2 : wrap64 (wrap64 (wrap64 ((n : Int) + (aheadN p : Int)) + ((unitN p * K : Nat) : Int)) - 1) = ((n + aheadN p + unitN p * K - 1 : Nat) : Int) := by
  generalize unitN p * K = s at hup hu1 ⊢
  generalize aheadN p = a at ha ⊢
  rw [w64 (x := (n : Int) + (a : Int)) (by omega) (by omega), w64 (x := (n : Int) + (a : Int) + (s : Int)) (by omega) (by omega), w64 (x := (n : Int) + (a : Int) + (s : Int) - 1) (by omega) (by omega)]
  omega
 rw [w2, show Int.tdiv ((n + aheadN p + unitN p * K - 1 : Nat) : Int) ((unitN p * K : Nat) : Int) = (((n + aheadN p + unitN p * K - 1) / (unitN p * K) : Nat) : Int) from (Int.ofNat_tdiv _ _).symm]
 have hle := sizeN_le p K n (by omega) (by omega) hn
 unfold sizeN at hle ⊢
 have hq : (n + aheadN p + unitN p * K - 1) / (unitN p * K) ≤ 4300 := Nat.le_trans (Nat.div_le_self _ _) (by omega)
 generalize (n + aheadN p + unitN p * K - 1) / (unitN p * K) = q at hle hq ⊢
 have w3 : mx (wrap64 (q : Int)) 1 = ((max q 1 : Nat) : Int) := by
  rw [show wrap64 (q : Int) = (q : Int) by unfold wrap64; omega]
  unfold mx
  split <;> omega
 rw [w3, ← Int.natCast_mul]
 rw [show wrap64 ((unitN p * max q 1 : Nat) : Int) = ((unitN p * max q 1 : Nat) : Int) by unfold wrap64; omega]
theorem parV_len (L : Nat) (p : Int) (K M : Nat) (data : List (List Int)) (hmay : adz.f p (K : Int) (M : Int) = some true) : (parV L p K M data).length = M := by
 obtain ⟨p1, p2, k1, k2, m1, m2⟩ := bjz hmay
 unfold parV
 rw [List.length_map, (daz p K M (by omega) (by omega) (by omega) (by omega)).2]
theorem eqb_loop (x y : List Int) (n : Nat) (hx : x.length = n) (hy : y.length = n) (hn : n ≤ 100000000) : ∀ (m i : Nat), i + m = n → Ev (fun k => ajz.l0 k x y (n : Int) (i : Int)) (decide (x.drop i = y.drop i)) := by
 intro m
 induction m with
 | zero =>
  intro i hi
  refine Ev.step (f := fun _ => some true) (fun k => ?_) ?_
  ·rw [ajz.l0, if_neg (by omega)]
  ·rw [List.drop_of_length_le (by omega), List.drop_of_length_le (by omega)]
   exact Ev.now _
 | succ m ih =>
  intro i hi
  have hix : i < x.length := by omega
  have hiy : i < y.length := by omega
  have e1 : rd x (i : Int) = x[i] := by unfold rd; rw [Int.toNat_natCast, List.getD_eq_getElem?_getD, List.getElem?_eq_getElem hix]; rfl
  have e2 : rd y (i : Int) = y[i] := by unfold rd; rw [Int.toNat_natCast, List.getD_eq_getElem?_getD, List.getElem?_eq_getElem hiy]; rfl
  have d1 := List.drop_eq_getElem_cons hix
  have d2 := List.drop_eq_getElem_cons hiy
  by_cases h : x[i] = y[i]
  ·refine Ev.step (f := fun k => ajz.l0 k x y (n : Int) ((i + 1 : Nat) : Int)) (fun k => ?_) ?_
   ·rw [ajz.l0, if_pos (by omega), if_pos (by omega), if_pos (by omega), if_pos (by omega), e1, e2, if_pos h, cHz (by omega)]
   ·have := ih (i + 1) (by omega)
    rw [d1, d2]
    rw [show decide (x[i] :: x.drop (i + 1) = y[i] :: y.drop (i + 1)) = decide (x.drop (i + 1) = y.drop (i + 1)) by rw [h]; simp only [List.cons.injEq, true_and]]
    exact this
  ·refine Ev.step (f := fun _ => some false) (fun k => ?_) ?_
   ·rw [ajz.l0, if_pos (by omega), if_pos (by omega), if_pos (by omega), if_pos (by omega), e1, e2, if_neg h]
   ·rw [d1, d2, decide_eq_false (by intro hh; injection hh with h1 _; exact h h1)]
    exact Ev.now _
theorem eqb_ev (x y : List Int) (hx : x.length ≤ 100000000) : Ev (fun k => ajz.f k x y) (decide (x = y)) := by
 by_cases hl : x.length = y.length
 ·have h := eqb_loop x y x.length rfl hl.symm hx x.length 0 (by omega)
  refine Ev.congr (fun k => ?_) (by simpa using h)
  unfold ajz.f
  rw [if_pos (by omega)]
 ·refine Ev.congr (f := fun _ => some false) (fun k => ?_) ?_
  ·unfold ajz.f
   rw [if_neg (by omega)]
  ·rw [decide_eq_false (by rintro rfl; exact hl rfl)]
   exact Ev.now _
theorem eqRows_dec : ∀ (p q : List (List Int)), (∀ x, x ∈ p → x.length ≤ 100000000) → Ev (fun k => eqRows k p q) (decide (p = q))
 | [], [], _ => by simp only [eqRows]; exact Ev.now _
 | [], _ :: _, _ => by simp only [eqRows]; exact Ev.now _
 | _ :: _, [], _ => by simp only [eqRows]; exact Ev.now _
 | x :: xs, y :: ys, h => by
  simp only [eqRows]
  refine Ev.bind (eqb_ev x y (h x (List.mem_cons_self ..))) ?_
  by_cases hxy : x = y
  ·refine Ev.congr (f := fun k => eqRows k xs ys) (fun k => by rw [if_pos (decide_eq_true hxy)]) ?_
   have := eqRows_dec xs ys (fun z hz => h z (List.mem_cons_of_mem _ hz))
   simpa [hxy] using this
  ·refine Ev.congr (f := fun _ => some false) (fun k => by rw [decide_eq_false hxy, if_neg (by decide)]) ?_
   rw [decide_eq_false (by intro hh; injection hh with h1 _; exact hxy h1)]
   exact Ev.now _
theorem eqFunc_dec (p q : List (List Int)) (hl : p.length ≤ 1000000) (h : ∀ x, x ∈ p → x.length ≤ 100000000) : Ev (fun k => eqFunc k p q) (decide (p = q)) := by
 by_cases hpq : p.length = q.length
 ·refine Ev.congr (fun k => ?_) (eqRows_dec p q h)
  unfold eqFunc
  rw [if_pos hpq, if_pos hl]
 ·refine Ev.congr (f := fun _ => some false) (fun k => ?_) ?_
  ·unfold eqFunc
   rw [if_neg hpq]
  ·rw [decide_eq_false (by rintro rfl; exact hpq rfl)]
   exact Ev.now _
theorem ver_dec (p : Int) (K M L : Nat) (data Q : List (List Int)) (hmay : adz.f p (K : Int) (M : Int) = some true) (hK : data.length = K) (hL : L ≤ 1000000) (hd : L % wN (pbits p) = 0) (hr : ∀ r, r ∈ data → r.length = L) (hQ : Q.length = M) :
  Ev (fun k => aNz.f k p (K : Int) (M : Int) (data ++ Q)) (decide (parV L p K M data = Q)) := by
 have h1 := par_ev p K M L data hmay hK hL hd hr
 have hl := parV_len L p K M data hmay
 obtain ⟨p1, p2, k1, k2, m1, m2⟩ := bjz hmay
 have h2 := eqFunc_dec (parV L p K M data) Q (by omega) (fun x hx => by
  unfold parV at hx
  obtain ⟨c, -, rfl⟩ := List.mem_map.1 hx
  rw [dotV_len hd hr]; omega)
 have ht : (data ++ Q).take K = data := by rw [← hK, List.take_left']; rfl
 have hdr : (data ++ Q).drop K = Q := by rw [← hK, List.drop_left']; rfl
 refine Ev.congr (f := fun k => (ahz.f k p (K : Int) (M : Int) data).bind fun t => if t.2 = 0 then eqFunc k t.1 Q else some false) (fun k => ?_) ?_
 ·unfold aNz.f
  rw [hmay, Option.bind_some, if_pos rfl, if_pos (by rw [List.length_append, hK, hQ]; omega), Int.toNat_natCast, ht, hdr]
 ·refine Ev.bind h1 ?_
  refine Ev.congr (fun k => ?_) h2
  rw [if_pos rfl]
theorem cZz : ∀ b, b < 13 → Go.bits .xor .i64 0 ((b : Nat) : Int) = (b : Int) := by decide +kernel
def mayQ (q : Int) (K M : Nat) : Bool := adz.f q (K : Int) (M : Int) == some true
def verB (S : Nat) (q : Int) (K M : Nat) (L : List (List Int)) : Bool := decide (parV S q K M (L.take K) = L.drop K)
def longB (S : Nat) (q : Int) : Bool := decide (0 < S) && decide (S % unitN q = 0)
def passB (S : Nat) (q : Int) (K M : Nat) (L : List (List Int)) : Bool := mayQ q K M && (longB S q && verB S q K M L)
theorem six {q : Int} (h1 : 1 ≤ q) (h2 : q ≤ 6) : q = 1 ∨ q = 2 ∨ q = 3 ∨ q = 4 ∨ q = 5 ∨ q = 6 := by omega
theorem unit_even {q : Int} (h1 : 1 ≤ q) (h2 : q ≤ 6) {S : Nat} (h : S % unitN q = 0) : S % wN (pbits q) = 0 := by
 have one : ∀ p : Int, wN (pbits p) = 1 → S % wN (pbits p) = 0 := fun p hp => by rw [hp]; exact Nat.mod_one S
 rcases six h1 h2 with rfl | rfl | rfl | rfl | rfl | rfl
 ·exact one 1 rfl
 ·have e1 : wN (pbits 2) = 2 := rfl
  have e2 : S % 8 = 0 := h
  rw [e1]
  omega
 ·exact one 3 rfl
 ·exact one 4 rfl
 ·exact one 5 rfl
 ·exact one 6 rfl
theorem size_unit {q : Int} (h1 : 1 ≤ q) (h2 : q ≤ 6) : sizeN q 8 0 = unitN q ∧ adz.f q ((8 : Nat) : Int) ((1 : Nat) : Int) = some true := by
 rcases six h1 h2 with rfl | rfl | rfl | rfl | rfl | rfl <;> exact ⟨rfl, rfl⟩
theorem long_ev (S : Nat) (q K : Int) (h1 : 1 ≤ q) (h2 : q ≤ 6) (L : List (List Int)) (h0 : 0 < L.length) (hS : (rd_L1 L 0).length = S) : Ev (fun k => aRz.f k L K q) (longB S q) := by
 obtain ⟨e1, e2⟩ := size_unit h1 h2
 have hs := size_ev q 8 1 0 e2 (by omega)
 rw [e1] at hs
 have hu := unitN_bd q
 refine Ev.congr (f := fun k => (anz.f k q ((8 : Nat) : Int) ((1 : Nat) : Int) ((0 : Nat) : Int)).bind fun bt => if (S : Int) > 0 then (if bt.1 = 0 then none else some (((S : Int) % bt.1) == 0)) else some false) (fun k => ?_) ?_
 ·unfold aRz.f
  rw [if_pos (by omega), hS]
  rfl
 ·refine Ev.bind hs ?_
  refine Ev.congr (f := fun _ => some (longB S q)) (fun k => ?_) (Ev.now _)
  dsimp only
  unfold longB
  by_cases hz : 0 < S
  ·rw [if_pos (by omega), if_neg (by omega), decide_eq_true hz, Bool.true_and]
   congr 1
   have e3 : ((S : Int) % (unitN q : Int)) = ((S % unitN q : Nat) : Int) := by omega
   rw [e3]
   generalize S % unitN q = m
   by_cases hm : m = 0
   ·rw [hm]; rfl
   ·rw [decide_eq_false hm]
    exact beq_eq_false_iff_ne.mpr (by omega)
  ·rw [if_neg (by omega), decide_eq_false hz]
   rfl
theorem pass_ev (q : Int) (K M S : Nat) (h1 : 1 ≤ q) (h2 : q ≤ 6) (L : List (List Int)) (hL : L.length = K + M) (hbig : K + M ≤ 1000000) (h0 : 0 < K + M) (hr : ∀ r, r ∈ L → r.length = S) (hS : S ≤ 1000000) : Ev (fun k => asz.f k L (K : Int) q) (passB S q K M L) := by
 have hw : wrap64 ((L.length : Int) - (K : Int)) = (M : Int) := by rw [hL]; unfold wrap64; omega
 have hrd : (rd_L1 L 0).length = S := by
  unfold rd_L1
  rw [show Int.toNat 0 = 0 from rfl, List.getD_eq_getElem?_getD, List.getElem?_eq_getElem (by omega)]
  exact hr _ (List.getElem_mem _)
 have hlo := long_ev S q (K : Int) h1 h2 L (by omega) hrd
 refine Ev.congr (f := fun k => (adz.f q (K : Int) (M : Int)).bind fun t852 => (if t852 = true then ((aRz.f k L (K : Int) q).bind fun t853 => (if t853 = true then ((aNz.f k q (K : Int) (M : Int) L).bind fun t854 => (some t854)) else (some false))) else (some false))) (fun k => ?_) ?_
 ·unfold asz.f aPz.f
  rw [Option.bind_some, hw]
 obtain ⟨b, hb⟩ := drz q (K : Int) (M : Int)
 unfold passB mayQ
 simp only [hb, Option.bind_some]
 cases b with
 | false => exact Ev.now _
 | true =>
  refine Ev.congr (f := fun k => (aRz.f k L (K : Int) q).bind fun t853 => (if t853 = true then ((aNz.f k q (K : Int) (M : Int) L).bind fun t854 => (some t854)) else (some false))) (fun k => by rw [if_pos rfl]) ?_
  refine Ev.bind hlo ?_
  cases hlb : longB S q with
  | false =>
   refine Ev.congr (fun k => ?_) (Ev.now _)
   rw [if_neg (by decide)]
   rfl
  | true =>
   unfold longB at hlb
   simp only [Bool.and_eq_true, decide_eq_true_eq] at hlb
   have hv := ver_dec q K M S (L.take K) (L.drop K) hb (by rw [List.length_take]; omega) hS (unit_even h1 h2 hlb.2) (fun r hr' => hr r (List.mem_of_mem_take hr')) (by rw [List.length_drop]; omega)
   rw [List.take_append_drop] at hv
   refine Ev.congr (f := fun k => (aNz.f k q (K : Int) (M : Int) L).bind fun t854 => (some t854)) (fun k => by rw [if_pos rfl]) ?_
   refine Ev.bind hv ?_
   refine Ev.congr (fun k => ?_) (Ev.now _)
   rfl
theorem trial_l_ev (L : List (List Int)) (K : Int) (b : Int → Bool) : ∀ (ps acc : List Int), (∀ q, q ∈ ps → Ev (fun k => asz.f k L K q) (b q)) → Ev (fun k => aHz.l k L K ps acc) (acc ++ ps.filter b)
 | [], acc, _ => by
  refine Ev.congr (fun k => ?_) (Ev.now _)
  rw [aHz.l]
  simp
 | p :: ps, acc, h => by
  refine Ev.congr (f := fun k => (asz.f k L K p).bind fun t => aHz.l k L K ps (if t = true then acc ++ [p] else acc)) (fun k => by rw [aHz.l]) ?_
  refine Ev.bind (h p (List.mem_cons_self ..)) ?_
  have ih := trial_l_ev L K b ps (if b p = true then acc ++ [p] else acc) (fun q hq => h q (List.mem_cons_of_mem _ hq))
  cases hp : b p with
  | true =>
   rw [hp, if_pos rfl] at ih
   rw [List.filter_cons_of_pos hp, if_pos rfl]
   rwa [List.append_assoc] at ih
  | false =>
   rw [hp, if_neg (by decide)] at ih
   rw [List.filter_cons_of_neg (by rw [hp]; decide), if_neg (by decide)]
   exact ih
def all6 : List Int := [1, 2, 3, 4, 5, 6]
theorem all_ev : Ev (fun k => aIz.f k) all6 := Ev.of (fun k => aIz.mono k) (k := 8) kr_
theorem all6_mem {q : Int} : q ∈ all6 ↔ 1 ≤ q ∧ q ≤ 6 := by
 unfold all6
 simp only [List.mem_cons, List.not_mem_nil, or_false]
 omega
theorem trial_ev (L : List (List Int)) (K : Int) (b : Int → Bool) (h : ∀ q, 1 ≤ q → q ≤ 6 → Ev (fun k => asz.f k L K q) (b q)) : Ev (fun k => aHz.f k L K) (all6.filter b) := by
 unfold aHz.f
 refine Ev.bind all_ev ?_
 refine Ev.congr (f := fun k => aHz.l k L K all6 []) (fun k => by rw [if_pos (by decide)]) ?_
 have := trial_l_ev L K b all6 [] (fun q hq => h q (all6_mem.1 hq).1 (all6_mem.1 hq).2)
 rwa [List.nil_append] at this
theorem trial_ev2 (K M S : Nat) (L : List (List Int)) (hL : L.length = K + M) (hbig : K + M ≤ 1000000) (h0 : 0 < K + M) (hr : ∀ r, r ∈ L → r.length = S) (hS : S ≤ 1000000) : Ev (fun k => aHz.f k L (K : Int)) (all6.filter fun q => passB S q K M L) :=
 trial_ev L (K : Int) _ (fun q h1 h2 => pass_ev q K M S h1 h2 L hL hbig h0 hr hS)
theorem ginv_of {wb : Int} (hw : wb = 8 ∨ wb = 16) {a v : Nat} (ha : a < fN wb) (hv : v < fN wb) (h0 : a ≠ 0) (h : gmN wb a v = 1) : ginv wb (a : Int) = (v : Int) := by
 have hr := dqz hw (a : Int)
 obtain ⟨i, hi⟩ : ∃ i : Nat, ginv wb (a : Int) = (i : Int) := ⟨(ginv wb (a : Int)).toNat, by omega⟩
 have h1 := gmN_inv hw ha h0
 rw [hi, Int.toNat_natCast] at h1
 have hil : i < fN wb := by have := a4z hw hr; rw [hi] at this; simpa using this
 have h2 : gmN wb v (gmN wb a i) = v := by rw [h1, gmN_id hw hv]
 rw [← gmN_asc hw hv ha, gmN_comm hw hv ha, h, gmN_idl hw hil] at h2
 rw [hi, h2]
theorem g16_2 : ginv 16 2 = 34821 := ginv_of (.inr rfl) (a := 2) (v := 34821) (by decide) (by decide) (by decide) (by decide +kernel)
theorem g16_3 : ginv 16 3 = 61446 := ginv_of (.inr rfl) (a := 3) (v := 61446) (by decide) (by decide) (by decide) (by decide +kernel)
theorem g16_4 : ginv 16 4 = 52231 := ginv_of (.inr rfl) (a := 4) (v := 52231) (by decide) (by decide) (by decide) (by decide +kernel)
def awake16.b : List Int := [97, 98, 99, 100, 101, 102, 103, 104, 105, 106, 107, 108, 109, 110, 111, 112, 113, 114, 115, 116, 117, 118, 119, 120]
def awake16.l : List (List Int) := [[97, 98, 99, 100, 101, 102, 103, 104], [105, 106, 107, 108, 109, 110, 111, 112], [113, 114, 115, 116, 117, 118, 119, 120], [121, 122, 123, 124, 125, 126, 127, 96], [0, 0, 0, 0, 0, 0, 0, 235]]
theorem cmz (i : Nat) {S : Nat} {q : Int} {K M : Nat} {L : List (List Int)} (h : ((parV S q K M (L.take K))[i]? == (L.drop K)[i]?) = false) : verB S q K M L = false := by
 unfold verB
 refine decide_eq_false (fun he => ?_)
 rw [he] at h
 simp at h
theorem parV_0 (S : Nat) (q : Int) (K M : Nat) (data : List (List Int)) (c : List Int) (h : (parM q K M)[0]? = some c) : (parV S q K M data)[0]? = some (dotV S (pbits q) c data) := by
 unfold parV
 rw [List.getElem?_map, h]
 rfl
theorem awake16.m2 : (parM 2 3 2)[0]? = some [34821, 61446, 52231] := by
 have h : (parM 2 3 2)[0]? = some [ginv 16 2, ginv 16 3, ginv 16 4] := rfl
 rw [h, g16_2, g16_3, g16_4]
theorem awake16.m3 : (parM 2 2 3)[0]? = some [61446, 52231] := by
 have h : (parM 2 2 3)[0]? = some [ginv 16 3, ginv 16 4] := rfl
 rw [h, g16_3, g16_4]
theorem awake16.v2 : verB 8 2 3 2 awake16.l = false := cmz 0 (by rw [parV_0 8 2 3 2 _ _ awake16.m2]; kernel_rfl)
theorem awake16.v3 : verB 8 2 2 3 awake16.l = false := cmz 0 (by rw [parV_0 8 2 2 3 _ _ awake16.m3]; kernel_rfl)
theorem awake16.p1 : passB 8 1 3 2 awake16.l = true := by kernel_rfl
theorem awake16.p5 : verB 8 5 3 2 awake16.l = false := cmz 1 kr_
theorem awake16.p6 : verB 8 6 3 2 awake16.l = false := cmz 1 kr_
theorem awake16.q1 : verB 8 1 2 3 awake16.l = false := cmz 0 kr_
theorem awake16.q5 : verB 8 5 2 3 awake16.l = false := cmz 0 kr_
theorem awake16.q6 : verB 8 6 2 3 awake16.l = false := cmz 0 kr_
theorem bXz {S : Nat} {q : Int} {K M : Nat} {L : List (List Int)} (h : verB S q K M L = false) : passB S q K M L = false := by
 unfold passB
 rw [h, Bool.and_false, Bool.and_false]
theorem awake16.len : ∀ r, r ∈ awake16.l → r.length = 8 := by decide
theorem awake16.t3 : Ev (fun k => aHz.f k awake16.l 3) [1] := by
 have h := trial_ev2 3 2 8 awake16.l rfl (by decide) (by decide) awake16.len (by decide)
 have e : (all6.filter fun q => passB 8 q 3 2 awake16.l) = [1] := by
  unfold all6
  simp only [List.filter_cons, awake16.p1, bXz awake16.v2, bXz awake16.p5, bXz awake16.p6, show passB 8 3 3 2 awake16.l = false from rfl, show passB 8 4 3 2 awake16.l = false from rfl, List.filter_nil]
  rfl
 rw [e] at h
 exact h
theorem awake16.t2 : Ev (fun k => aHz.f k awake16.l 2) [] := by
 have h := trial_ev2 2 3 8 awake16.l rfl (by decide) (by decide) awake16.len (by decide)
 have e : (all6.filter fun q => passB 8 q 2 3 awake16.l) = [] := by
  unfold all6
  simp only [List.filter_cons, bXz awake16.q1, bXz awake16.v3, bXz awake16.q5, bXz awake16.q6, show passB 8 3 2 3 awake16.l = false from rfl, show passB 8 4 2 3 awake16.l = false from rfl, List.filter_nil]
  rfl
 rw [e] at h
 exact h
theorem awake16.t1 : Ev (fun k => aHz.f k [[97], [97]] 1) [5, 6] := by
 have h := trial_ev2 1 1 1 [[97], [97]] rfl (by decide) (by decide) (by decide) (by decide)
 have e : (all6.filter fun q => passB 1 q 1 1 [[97], [97]]) = [5, 6] := by
  unfold all6
  simp only [List.filter_cons, show passB 1 1 1 1 [[97], [97]] = false from rfl, show passB 1 2 1 1 [[97], [97]] = false from rfl, show passB 1 3 1 1 [[97], [97]] = false from rfl, show passB 1 4 1 1 [[97], [97]] = false from rfl, show passB 1 5 1 1 [[97], [97]] = true by kernel_rfl, show passB 1 6 1 1 [[97], [97]] = true by kernel_rfl, List.filter_nil]
  rfl
 rw [e] at h
 exact h
theorem awake16.k3 : Ev (fun k => aTz.f k awake16.l 3) (1, 0) := Ev.bind awake16.t3 (Ev.congr (fun _ => rfl) (Ev.now _))
theorem awake16.k1 : Ev (fun k => aTz.f k [[97], [97]] 1) (0, 6) := Ev.bind awake16.t1 (Ev.congr (fun _ => rfl) (Ev.now _))
theorem awake16.enc : bQz.f 199 1 3 2 awake16.b = some (awake16.l, 0) := by kernel_rfl
theorem C_numsF {k : IntKind} {w : World} {g : Nat} {t : TypeId} {xs : List Int} {fr : Nat × Nat} (h : w.heap[g]? = some (.cells (nums k xs).toArray t fr)) (hl : xs.length ≤ 9223372036854775807) : Kd.C (Kd.int k) w (some ⟨g, 0, none⟩) xs.length xs := by
 refine ⟨rfl, hl, fun _ => ⟨_, rfl, fun j p hp => ⟨[.int k p], rfl, rfl, fun i u hu => ?_⟩⟩⟩
 obtain ⟨hj, rfl⟩ := List.getElem?_eq_some_iff.1 hp
 cases i with
 | succ i => simp at hu
 | zero =>
  obtain rfl : Value.int k xs[j] = u := by simpa using hu
  have e : (⟨g, 0, none⟩ : Addr).add (j * (Kd.int k).sz + 0) = ⟨g, j, none⟩ := by
   show (⟨g, 0, none⟩ : Addr).add (j * 1 + 0) = _
   unfold Addr.add
   split <;> simp_all
  rw [e, cell_of_row w g j _ t fr h]
  simp [nums, hj]
def bgz.f (_ : Nat) : Option (Bool) := some true
set_option maxRecDepth 100000 in
set_option maxHeartbeats 4000000 in
theorem bgz.calls (k : Nat) (r : Bool) (w : World) (h : bgz.f k = some r) :
 Calls Tryz.prog 35 #[] w fun e w' => e = .returned (.bool r) ∧ Below w.heap.size w w' := by
 obtain rfl : true = r := by injection h
 clear h
 have kc := fun (w : World) (C : Array Value) (n c : Nat) => Lib.run_convert_bytes_const (P := Tryz.prog) w 34 5 C n c Tryz.underlying34 Tryz.underlying5
 obtain ⟨k3, h3⟩ := Ev.rounds awake16.k3
 obtain ⟨k1, h1⟩ := Ev.rounds awake16.k1
 obtain ⟨k2, h2⟩ := Ev.rounds awake16.t2
 have HE := Aside0.mk (fun (W : World) (A : Option Addr) (hr : Kd.C (Kd.int .u8) W A awake16.b.length awake16.b) => bQz.calls 199 1 3 2 A 24 awake16.b awake16.l 0 W hr (by decide) awake16.enc)
 have HP3 := Aside0.mk (fun (W : World) (A : Option Addr) (c : Nat) (hr : Kd.C (Kd.slice 5 (Kd.int .u8)) W A awake16.l.length awake16.l) (hc : 5 ≤ c) => aTz.calls k3 A c awake16.l 3 1 0 W hr hc h3)
 have HP1 := Aside0.mk (fun (W : World) (A : Option Addr) (hr : Kd.C (Kd.slice 5 (Kd.int .u8)) W A [[97], [97]].length [[97], [97]]) => aTz.calls k1 A 2 [[97], [97]] 1 0 6 W hr (by decide) h1)
 have HT2 := Aside0.mk (fun (W : World) (A : Option Addr) (c : Nat) (hr : Kd.C (Kd.slice 5 (Kd.int .u8)) W A awake16.l.length awake16.l) (hc : 5 ≤ c) => aHz.calls k2 A c awake16.l 2 [] W hr hc h2)
 have hl5 : awake16.l.length = 5 := rfl
 rw [hl5] at HP3 HT2
 clear h1 h2 h3
 go_enter Tryz.func35, Tryz.ntmps35
 go_wp2_with fail
 refine (HE.out _ (some ⟨w.heap.size, 0, none⟩) (C_numsF (fr := (24, 25)) (heap_alloc_new _ _) (by decide))).mono ?_
 rintro e w1 ⟨v, rfl, q1, q2⟩
 have HB1 := Aside0.mk ((abz (Below.refl _ _) _).trans (q2.mono (by simp)) : Below w.heap.size w w1)
 obtain ⟨gg, c, rfl, -, -, -⟩ := Kd.N_form q1 (by decide)
 obtain ⟨-, hc, hC⟩ := Kd.djz q1
 have HC := Aside0.mk hC
 have HCC := Aside0.mk hc
 rw [hl5] at HC HCC ⊢
 have HP := Aside0.mk (HP3.out w1 _ c HC.out HCC.out)
 clear q1 q2 hC hc HE HP3
 go_wp2_with fail
 refine HP.out.mono ?_
 rintro e w2 ⟨rfl, q2⟩
 have HB2 := Aside0.mk (HB1.out.trans (q2.mono HB1.out.size))
 have HC2 := Aside0.mk (Kd.arz HC.out q2)
 clear q2 HP HC HB1
 have kd : ∀ (W : World) (o : Obj) (C : Array Value) (n c : Nat), Sem.run Tryz.prog (convert 34 34 (.slice (some ⟨W.heap.size + 1, 0, none⟩) n c)) ((W.alloc o).alloc (.cells C 5)) = Result.ok (.slice (some ⟨W.heap.size + 1, 0, none⟩) n c) ((W.alloc o).alloc (.cells C 5 (C.size, C.size + 1))) := fun W o C n c => by
  have h := kc (W.alloc o) C n c
  rw [World.size_alloc] at h
  exact h
 go_wp2_with fail
 have s1 := World.size_alloc w2 (.cells #[.int .u8 97] 5 (1, 2))
 have s2 := World.size_alloc (w2.alloc (.cells #[.int .u8 97] 5 (1, 2))) (.cells #[.int .u8 97] 5 (1, 2))
 have hb1 := heap_alloc_new w2 (.cells #[.int .u8 97] 5 (1, 2))
 have hb2 := heap_alloc_new (w2.alloc (.cells #[.int .u8 97] 5 (1, 2))) (.cells #[.int .u8 97] 5 (1, 2))
 have hB3 := abz (abz (abz (Below.refl w2.heap.size w2) (.cells #[.int .u8 97] 5 (1, 2))) (.cells #[.int .u8 97] 5 (1, 2))) (.cells #[.slice (some ⟨w2.heap.size, 0, none⟩) 1 1, .slice (some ⟨w2.heap.size + 1, 0, none⟩) 1 1] 34)
 have hb3 := heap_alloc_new ((w2.alloc (.cells #[.int .u8 97] 5 (1, 2))).alloc (.cells #[.int .u8 97] 5 (1, 2))) (.cells #[.slice (some ⟨w2.heap.size, 0, none⟩) 1 1, .slice (some ⟨w2.heap.size + 1, 0, none⟩) 1 1] 34)
 rw [s1] at hb2 s2
 have hc1 := aez (aez hb1 (abz (Below.refl _ _) (.cells #[.int .u8 97] 5 (1, 2)))) (abz (Below.refl _ _) (.cells #[.slice (some ⟨w2.heap.size, 0, none⟩) 1 1, .slice (some ⟨w2.heap.size + 1, 0, none⟩) 1 1] 34))
 have hc2 := aez hb2 (abz (Below.refl _ _) (.cells #[.slice (some ⟨w2.heap.size, 0, none⟩) 1 1, .slice (some ⟨w2.heap.size + 1, 0, none⟩) 1 1] 34))
 rw [s2] at hb3
 have HQ := Aside0.mk (HP1.out _ _ (C_twoB hb3 (by decide) (by decide) (C_numsF (xs := [97]) (fr := (1, 2)) hc1 (by decide)) (C_numsF (xs := [97]) (fr := (1, 2)) hc2 (by decide))))
 have HB3 := Aside0.mk (HB2.out.trans (hB3.mono HB2.out.size))
 have HC3 := Aside0.mk (Kd.arz HC2.out hB3)
 clear hb1 hb2 hb3 hc1 hc2 hB3 HP1 HC2 HB2
 refine HQ.out.mono ?_
 rintro e w3 ⟨rfl, q3⟩
 have HB4 := Aside0.mk (HB3.out.trans (q3.mono HB3.out.size))
 have HC4 := Aside0.mk (Kd.arz HC3.out q3)
 have HT := Aside0.mk (HT2.out w3 _ c HC4.out HCC.out)
 clear q3 HQ HB3 HC3 HT2
 go_wp2_with fail
 refine HT.out.mono ?_
 rintro e w4 ⟨v, rfl, q4, q5⟩
 obtain ⟨A4, c4, rfl, -, -⟩ := Kd.bRz q4
 have HB5 := Aside0.mk (HB4.out.trans (q5.mono HB4.out.size))
 clear q4 q5
 go_wp2
 go_ret
 exact ⟨rfl, HB5.out⟩
end Go.Proofs.YtpdakdcmahlghaaGreat.XCo
end
section
namespace Go.Proofs.YtpdakdcmahlghaaGreat.XCo
open Go.RowKit Go.Proofs.YtpdakdcmahlghaaGreatW.PrintWords Go.Proofs.YtpdakdcmahlghaaGreatW.PrintLast Go.Proofs.YtpdakdcmahlghaaGreatW.PrintMore
attribute [local go_sem] aDz aEz aLz aMz auz avz aFz aGz
set_option linter.unusedVariables false
set_option linter.unusedSimpArgs false
attribute [local go_sem] Oper.semAt_some
abbrev ThX := Nat × Option Addr × Nat × List Int
end Go.Proofs.YtpdakdcmahlghaaGreat.XCo
end
section
namespace Go.Proofs.YtpdakdcmahlghaaGreat.XCo
open Go.RowKit Go.Proofs.YtpdakdcmahlghaaGreatW.PrintWords Go.Proofs.YtpdakdcmahlghaaGreatW.PrintLast Go.Proofs.YtpdakdcmahlghaaGreatW.PrintMore
attribute [local go_sem] aDz aEz aLz aMz auz avz aFz aGz
set_option linter.unusedVariables false
set_option linter.unusedSimpArgs false
def slE (x : ThX) : Value := .slice x.2.1 x.2.2.2.length x.2.2.1
def slK : Kd ThX := Kd.scalar slE (fun _ => rfl)
def ThOk (W : World) (ok : Nat → Prop) (x : ThX) : Prop := x.2.2.2.length ≤ x.2.2.1 ∧ Kd.F (Kd.int .u8) W ok x.2.1 x.2.2.2.length x.2.2.2
theorem ThOk.move {W W1 : World} {ok : Nat → Prop} {x : ThX} (h : ThOk W ok x) (hm : ∀ k, ok k → k < W.heap.size → W1.heap[k]? = W.heap[k]?) : ThOk W1 ok x := ⟨h.1, Kd.F_step h.2 hm⟩
def len0 (T : List (Nat × List Int)) : Nat := (T.getD 0 (0, [])).2.length
structure RX (N b8 b9 b10 : Nat) (A B : World) : Prop where
 os : B.os = A.os
 tape : B.tape = A.tape
 output : B.output = A.output
 size : A.heap.size ≤ B.heap.size
 block : ∀ k, k < N → k ≠ b8 → k ≠ b9 → k ≠ b10 → B.heap[k]? = A.heap[k]?
 walks : ∀ (k : Nat) (o : Obj), A.heap[k]? = some o → o.isCells = false → B.heap[k]? = some o
theorem RX.trans {N b8 b9 b10 : Nat} {A B C : World} (h : RX N b8 b9 b10 A B) (k : RX N b8 b9 b10 B C) : RX N b8 b9 b10 A C :=
 ⟨k.os.trans h.os, k.tape.trans h.tape, k.output.trans h.output, Nat.le_trans h.size k.size, fun i h1 h2 h3 h4 => (k.block i h1 h2 h3 h4).trans (h.block i h1 h2 h3 h4), fun i o ho hn => k.walks i o (h.walks i o ho hn) hn⟩
theorem RX.refl (N b8 b9 b10 : Nat) (A : World) : RX N b8 b9 b10 A A := ⟨rfl, rfl, rfl, Nat.le_refl _, fun _ _ _ _ _ => rfl, fun _ _ h _ => h⟩
theorem RX.of_below {N b8 b9 b10 : Nat} {A B : World} (h : Below A.heap.size A B) (hN : N ≤ A.heap.size) : RX N b8 b9 b10 A B := ⟨h.os, h.tape, h.output, h.size, fun k hk _ _ _ => h.block k (by omega), fun k o ho _ => (h.block k (apz ho)).trans ho⟩
theorem RX.blk {N b8 b9 b10 : Nat} {A B : World} (h : RX N b8 b9 b10 A B) {k : Nat} {o : Obj} (hk : A.heap[k]? = some o) (h1 : k < N) (h2 : k ≠ b8) (h3 : k ≠ b9) (h4 : k ≠ b10) : B.heap[k]? = some o := (h.block k h1 h2 h3 h4).trans hk
theorem own_ne {X : World} {u v : Value} {e1 e2 : TypeId} (h1 : ∀ k, u.ownBlock = some k → ∃ cells, X.heap[k]? = some (.cells cells e1 (0, 0))) (h2 : ∀ k, v.ownBlock = some k → ∃ cells, X.heap[k]? = some (.cells cells e2 (0, 0))) (hne : e1 ≠ e2) : ∀ k, u.ownBlock = some k → some k ≠ v.ownBlock := by
 intro k hk he
 obtain ⟨c1, e1'⟩ := h1 k hk
 obtain ⟨c2, e2'⟩ := h2 k he.symm
 rw [e1'] at e2'
 injection e2' with e3
 injection e3 with _ e4
 exact hne e4
end Go.Proofs.YtpdakdcmahlghaaGreat.XCo
end
