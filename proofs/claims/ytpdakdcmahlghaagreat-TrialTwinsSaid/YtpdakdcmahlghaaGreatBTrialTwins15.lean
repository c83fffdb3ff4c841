-- Joined by this work's own program (wip/tools/bundle.py) out of its texts: what this claim uses of them. Not trusted: Lean checks it.
import Derived.Lib.SlBytesConst
import Derived.Test.YtpdakdcmahlghaaGreatBTrialTwins14
section
namespace Go.Proofs.YtpdakdcmahlghaaGreat.XCo
open Go.RowKit Go.Proofs.YtpdakdcmahlghaaGreatW.PrintWords Go.Proofs.YtpdakdcmahlghaaGreatW.PrintLast Go.Proofs.YtpdakdcmahlghaaGreatW.PrintMore
attribute [local go_sem] aBz aCz aIz aJz auz avz aDz aEz
set_option linter.unusedVariables false
set_option linter.unusedSimpArgs false
def fN (wb : Int) : Nat := if wb = 8 then 256 else 65536
theorem fN_fsize {wb : Int} (hw : wb = 8 ∨ wb = 16) : fsize wb = (fN wb : Int) := by rcases hw with rfl | rfl <;> rfl
theorem gmul_cast {wb a b : Int} (ha : 0 ≤ a ∧ a < fsize wb) (hb : 0 ≤ b ∧ b < fsize wb) : gmul wb a b = (gmN wb a.toNat b.toNat : Int) := by
 unfold gmul inF
 rw [if_pos (by simp [ha.1, ha.2, hb.1, hb.2])]
theorem cFz {wb a b : Int} (ha : 0 ≤ a ∧ a < fsize wb) (hb : 0 ≤ b ∧ b < fsize wb) : (gmul wb a b).toNat = gmN wb a.toNat b.toNat := by
 rw [gmul_cast ha hb, Int.toNat_natCast]
section
variable {wb : Int} (hw : wb = 8 ∨ wb = 16)
include hw
theorem bDz : ∃ (m q : Nat) (l : List Nat), GfInv m q l ∧ fN wb = 2 ^ (m + 1) ∧ ∀ a b, gmN wb a b = gm m q a b := by
 rcases hw with rfl | rfl
 ·exact ⟨7, 285, _, gf8, rfl, fun a b => rfl⟩
 ·exact ⟨15, 69643, _, gf16, rfl, fun a b => rfl⟩
theorem gmN_ltN {a : Nat} (b : Nat) (ha : a < fN wb) : gmN wb a b < fN wb := by
 obtain ⟨m, q, l, F, e, h⟩ := bDz hw
 rw [h, e]
 exact F.lt (by rw [← e]; exact ha)
theorem gmN_xl {a c : Nat} (b : Nat) (ha : a < fN wb) (hc : c < fN wb) : gmN wb (a ^^^ c) b = gmN wb a b ^^^ gmN wb c b := by
 obtain ⟨m, q, l, F, e, h⟩ := bDz hw
 rw [e] at ha hc
 rw [h, h, h]
 exact F.bUz ha hc
theorem gmN_xr (a b c : Nat) : gmN wb a (b ^^^ c) = gmN wb a b ^^^ gmN wb a c := by
 obtain ⟨m, q, l, F, e, h⟩ := bDz hw
 rw [h, h, h]
 exact Gf.bYz a b c
theorem gmN_comm {a b : Nat} (ha : a < fN wb) (hb : b < fN wb) : gmN wb a b = gmN wb b a := by
 obtain ⟨m, q, l, F, e, h⟩ := bDz hw
 rw [e] at ha hb
 rw [h, h]
 exact F.comm ha hb
theorem gmN_asc {a b : Nat} (ha : a < fN wb) (hb : b < fN wb) (c : Nat) : gmN wb (gmN wb a b) c = gmN wb a (gmN wb b c) := by
 obtain ⟨m, q, l, F, e, h⟩ := bDz hw
 rw [e] at ha hb
 rw [h, h, h, h]
 exact F.assoc ha hb c
theorem gmN_id {a : Nat} (ha : a < fN wb) : gmN wb a 1 = a := by
 obtain ⟨m, q, l, F, e, h⟩ := bDz hw
 rw [e] at ha
 rw [h]
 exact F.one_right ha
theorem one_ltN : 1 < fN wb := by rcases hw with rfl | rfl <;> decide
theorem gmN_idl {a : Nat} (ha : a < fN wb) : gmN wb 1 a = a := by rw [gmN_comm hw (one_ltN hw) ha, gmN_id hw ha]
theorem gmN_zl (a : Nat) : gmN wb 0 a = 0 := by
 obtain ⟨m, q, l, F, e, h⟩ := bDz hw
 rw [h]
 exact Gf.zero_left a
theorem bMz (a : Nat) : gmN wb a 0 = 0 := by
 obtain ⟨m, q, l, F, e, h⟩ := bDz hw
 rw [h]
 exact Gf.zero_right a
theorem xor_ltN {a b : Nat} (ha : a < fN wb) (hb : b < fN wb) : a ^^^ b < fN wb := by
 obtain ⟨m, q, l, F, e, h⟩ := bDz hw
 rw [e] at ha hb ⊢
 exact Nat.xor_lt_two_pow ha hb
theorem a4z {a : Int} (ha : 0 ≤ a ∧ a < fsize wb) : a.toNat < fN wb := by
 have := fN_fsize hw
 omega
theorem bx_toNat {a b : Int} (ha : 0 ≤ a ∧ a < fsize wb) (hb : 0 ≤ b ∧ b < fsize wb) : (Go.bits .xor .i64 a b).toNat = a.toNat ^^^ b.toNat := by
 obtain ⟨x, rfl⟩ : ∃ x : Nat, a = x := ⟨a.toNat, by omega⟩
 obtain ⟨y, rfl⟩ : ∃ y : Nat, b = y := ⟨b.toNat, by omega⟩
 rcases coz hw with ⟨e, -⟩ | ⟨e, -⟩ <;> rw [e] at ha hb
 ·rw [ccz x y (by omega) (by omega)]; simp
 ·rw [ccz x y (by omega) (by omega)]; simp
theorem gmN_inv {a : Nat} (ha : a < fN wb) (h0 : a ≠ 0) : gmN wb a (ginv wb (a : Int)).toNat = 1 := by
 have e : (ginv wb (a : Int)).toNat = gpwN wb a (fsize wb - 2).toNat := by
  have hin : inF wb (a : Int) = true := by
   unfold inF
   rw [decide_eq_true (by omega), decide_eq_true (by rw [fN_fsize hw]; omega)]
   rfl
  have hb : ((a : Int) != 0) = true := by simpa using h0
  have hf : decide ((0 : Int) ≤ fsize wb - 2) = true := by rcases hw with rfl | rfl <;> rfl
  unfold ginv
  rw [hin, hb, if_pos (by decide)]
  unfold gpow
  rw [hin, hf, if_pos (by decide), Int.toNat_natCast, Int.toNat_natCast]
 rw [e]
 rcases hw with rfl | rfl
 ·exact gf8.inv_left (m := 7) (by exact ha) h0
 ·exact gf16.inv_left (m := 15) (by exact ha) h0
end
theorem xor4 (a b c d : Nat) : (a ^^^ b) ^^^ (c ^^^ d) = (a ^^^ c) ^^^ (b ^^^ d) := by
 rw [Nat.xor_assoc, Nat.xor_assoc, ← Nat.xor_assoc b, ← Nat.xor_assoc c, Nat.xor_comm b]
def evN (wb : Int) : List Int → List Nat → Nat
 | x :: r, y :: v => gmN wb x.toNat y ^^^ evN wb r v
 | _, _ => 0
section
variable {wb : Int} (hw : wb = 8 ∨ wb = 16)
include hw
theorem evN_clr {n : Int} (hn : 0 ≤ n ∧ n < fsize wb) : ∀ (r p : List Int) (v : List Nat), r.length = p.length → (∀ x, x ∈ r → 0 ≤ x ∧ x < fsize wb) → (∀ x, x ∈ p → 0 ≤ x ∧ x < fsize wb) →
  evN wb (List.zipWith (clrF wb n) r p) v = evN wb r v ^^^ gmN wb n.toNat (evN wb p v)
 | [], [], v, _, _, _ => by simp [evN, bMz hw]
 | [], _ :: _, _, h, _, _ => by simp at h
 | _ :: _, [], _, h, _, _ => by simp at h
 | x :: r, y :: p, [], _, _, _ => by simp [evN, bMz hw]
 | x :: r, y :: p, z :: v, h, hr, hp => by
  have ih := evN_clr hn r p v (by simpa using h) (fun x hx => hr x (List.mem_cons_of_mem _ hx)) (fun x hx => hp x (List.mem_cons_of_mem _ hx))
  have hx := hr x (List.mem_cons_self ..)
  have hy := hp y (List.mem_cons_self ..)
  show gmN wb (clrF wb n x y).toNat z ^^^ evN wb (List.zipWith (clrF wb n) r p) v = (gmN wb x.toNat z ^^^ evN wb r v) ^^^ gmN wb n.toNat (gmN wb y.toNat z ^^^ evN wb p v)
  have e : (clrF wb n x y).toNat = x.toNat ^^^ gmN wb n.toNat y.toNat := by
   unfold clrF
   rw [bx_toNat hw hx (a7z hw _ _), cFz hn hy]
  rw [ih, e, gmN_xl hw z (a4z hw hx) (gmN_ltN hw _ (a4z hw hn)), gmN_asc hw (a4z hw hn) (a4z hw hy), gmN_xr hw, xor4]
theorem evN_scl {c : Int} (hc : 0 ≤ c ∧ c < fsize wb) : ∀ (p : List Int) (v : List Nat), (∀ x, x ∈ p → 0 ≤ x ∧ x < fsize wb) →
  evN wb (List.zipWith (fun x _ => gmul wb x c) p p) v = gmN wb c.toNat (evN wb p v)
 | [], v, _ => by simp [evN, bMz hw]
 | x :: p, [], _ => by simp [evN, bMz hw]
 | x :: p, z :: v, hp => by
  have ih := evN_scl hc p v (fun x hx => hp x (List.mem_cons_of_mem _ hx))
  have hx := hp x (List.mem_cons_self ..)
  show gmN wb (gmul wb x c).toNat z ^^^ evN wb (List.zipWith (fun x _ => gmul wb x c) p p) v = gmN wb c.toNat (gmN wb x.toNat z ^^^ evN wb p v)
  rw [ih, cFz hx hc, gmN_xr hw, gmN_comm hw (a4z hw hx) (a4z hw hc), gmN_asc hw (a4z hw hc) (a4z hw hx)]
theorem evN_off : ∀ (r : List Int) (v : List Nat), (∀ j, j < v.length → r.getD j 0 = 0 ∨ v.getD j 0 = 0) → evN wb r v = 0
 | [], v, _ => rfl
 | x :: r, [], _ => rfl
 | x :: r, y :: v, h => by
  have ih := evN_off r v (fun j hj => by simpa using h (j + 1) (by simpa using hj))
  have h0 := h 0 (by simp)
  show gmN wb x.toNat y ^^^ evN wb r v = 0
  rw [ih]
  rcases h0 with h0 | h0
  ·have : x = 0 := by simpa using h0
   rw [this]; simp [gmN_zl hw]
  ·have : y = 0 := by simpa using h0
   rw [this]; simp [bMz hw]
theorem evN_two : ∀ (r : List Int) (v : List Nat) (i c : Nat), i < c → c < v.length → r.getD i 0 = 1 → v.getD c 0 = 1 → (v.getD i 0 = (r.getD c 0).toNat) → (0 ≤ r.getD c 0 ∧ r.getD c 0 < fsize wb) → (∀ j, j < v.length → j ≠ i → j ≠ c → r.getD j 0 = 0 ∨ v.getD j 0 = 0) → evN wb r v = 0
 | [], v, i, c, _, _, h1, _, _, _, _ => by simp at h1
 | x :: r, [], i, c, _, h, _, _, _, _, _ => by simp at h
 | x :: r, y :: v, 0, c + 1, _, hc, h1, h2, h3, h4, h => by
  have e1 : x = 1 := by simpa using h1
  have e2 : v.getD c 0 = 1 := by simpa using h2
  have e3 : y = (r.getD c 0).toNat := by simpa using h3
  have e4 : 0 ≤ r.getD c 0 ∧ r.getD c 0 < fsize wb := by simpa using h4
  have hlt := a4z hw e4
  show gmN wb x.toNat y ^^^ evN wb r v = 0
  have key : ∀ (r : List Int) (v : List Nat) (c : Nat), c < v.length → v.getD c 0 = 1 → (0 ≤ r.getD c 0 ∧ r.getD c 0 < fsize wb) → (∀ j, j < v.length → j ≠ c → r.getD j 0 = 0 ∨ v.getD j 0 = 0) → evN wb r v = (r.getD c 0).toNat := by
   intro r
   induction r with
   | nil => intro v c _ _ _ _; simp [evN]
   | cons x r ih =>
    intro v c hc h1 h2 h
    cases v with
    | nil => simp at hc
    | cons y v =>
     cases c with
     | zero =>
      have := evN_off hw r v (fun j hj => by simpa using h (j + 1) (by simpa using hj) (by omega))
      have hy : y = 1 := by simpa using h1
      have hx : 0 ≤ x ∧ x < fsize wb := by simpa using h2
      show gmN wb x.toNat y ^^^ evN wb r v = _
      rw [this, hy, gmN_id hw (a4z hw hx), Nat.xor_zero]
      simp
     | succ c =>
      have ih := ih v c (by simpa using hc) (by simpa using h1) (by simpa using h2) (fun j hj hne => by simpa using h (j + 1) (by simpa using hj) (by omega))
      have h0 := h 0 (by simp) (by omega)
      show gmN wb x.toNat y ^^^ evN wb r v = _
      rw [ih]
      rcases h0 with h0 | h0
      ·have : x = 0 := by simpa using h0
       rw [this]
       show gmN wb 0 y ^^^ _ = _
       rw [gmN_zl hw, Nat.zero_xor]
       simp
      ·have : y = 0 := by simpa using h0
       rw [this, bMz hw, Nat.zero_xor]
       simp
  rw [key r v c (by simpa using hc) e2 e4 (fun j hj hne => by simpa using h (j + 1) (by simpa using hj) (by omega) (by omega)), e1, e3]
  show gmN wb 1 _ ^^^ _ = 0
  rw [gmN_idl hw hlt, Nat.xor_self]
 | x :: r, y :: v, i + 1, c + 1, hic, hc, h1, h2, h3, h4, h => by
  have ih := evN_two r v i c (by omega) (by simpa using hc) (by simpa using h1) (by simpa using h2) (by simpa using h3) (by simpa using h4) (fun j hj hne hnc => by simpa using h (j + 1) (by simpa using hj) (by omega) (by omega))
  have h0 := h 0 (by simp) (by omega) (by omega)
  show gmN wb x.toNat y ^^^ evN wb r v = 0
  rw [ih]
  rcases h0 with h0 | h0
  ·have : x = 0 := by simpa using h0
   rw [this]
   show gmN wb 0 y ^^^ _ = _
   rw [gmN_zl hw, Nat.zero_xor]
  ·have : y = 0 := by simpa using h0
   rw [this, bMz hw, Nat.zero_xor]
 | x :: r, y :: v, i, 0, hic, _, _, _, _, _, _ => by omega
end
theorem idxF_at' {α : Type} (p : α → Bool) : ∀ (l : List α), ¬ idxF p l < 0 → ∃ x, l[(idxF p l).toNat]? = some x ∧ p x = true
 | [], h => by simp [idxF] at h
 | y :: l, h => by
  have h1 := b4z p l
  unfold idxF at h ⊢
  by_cases hp : p y = true
  ·rw [if_pos hp]; exact ⟨y, by simp, hp⟩
  ·rw [if_neg hp] at h ⊢
   by_cases hn : idxF p l < 0
   ·rw [if_pos hn] at h; omega
   ·rw [if_neg hn]
    obtain ⟨x, hx, hpx⟩ := idxF_at' p l hn
    refine ⟨x, ?_, hpx⟩
    rw [show (idxF p l + 1).toNat = (idxF p l).toNat + 1 by omega, List.getElem?_cons_succ]
    exact hx
theorem evN_lt {wb : Int} (hw : wb = 8 ∨ wb = 16) : ∀ (r : List Int) (v : List Nat), (∀ x, x ∈ r → 0 ≤ x ∧ x < fsize wb) → evN wb r v < fN wb
 | [], _, _ => by have := one_ltN hw; simp only [evN]; omega
 | _ :: _, [], _ => by have := one_ltN hw; simp only [evN]; omega
 | x :: r, y :: v, h => xor_ltN hw (gmN_ltN hw _ (a4z hw (h x (List.mem_cons_self ..)))) (evN_lt hw r v (fun z hz => h z (List.mem_cons_of_mem _ hz)))
structure RI (wb : Int) (n : Nat) (u b : List Nat) (c : Nat) (W : List (List Int)) : Prop where
 len : W.length = n
 good : ∀ r, r ∈ W → Good wb (n + n) r
 zero : ∀ r, r ∈ W → evN wb r (u ++ b) = 0
 unit : ∀ i r, W[i]? = some r → ∀ j, j < c → r.getD j 0 = if i = j then 1 else 0
 inj : ∀ v : List Nat, v.length = n → (∀ x, x ∈ v → x < fN wb) → (∀ r, r ∈ W → evN wb r v = 0) → ∀ x, x ∈ v → x = 0
theorem bEz {wb : Int} {L : Nat} {r : List Int} (h : Good wb L r) (j : Nat) : 0 ≤ r.getD j 0 ∧ r.getD j 0 < fsize wb := by
 rw [List.getD_eq_getElem?_getD]
 cases e : r[j]? with
 | none => exact ⟨Int.le_refl _, by show (0 : Int) < _; unfold fsize; split <;> omega⟩
 | some x => exact h.2 x (List.mem_of_getElem? e)
theorem getD_zip (f : Int → Int → Int) (hf : f 0 0 = 0) : ∀ (r p : List Int) (j : Nat), r.length = p.length → (List.zipWith f r p).getD j 0 = f (r.getD j 0) (p.getD j 0)
 | [], [], j, _ => by simp [hf]
 | [], _ :: _, _, h => by simp at h
 | _ :: _, [], _, h => by simp at h
 | x :: r, y :: p, 0, _ => by simp
 | x :: r, y :: p, j + 1, h => by simpa using getD_zip f hf r p j (by simpa using h)
theorem cWz {a b : Int} (ha : 0 ≤ a) (hb : 0 ≤ b) (h : a.toNat = b.toNat) : a = b := by omega
section
variable {wb : Int} (hw : wb = 8 ∨ wb = 16)
include hw
theorem RI.pivot {n c : Nat} {u b : List Nat} {W : List (List Int)} (h : RI wb n u b c W) (hc : c < n) : ¬ idxF (nzB c) (W.drop c) < 0 := by
 intro hneg
 have hany := (b4z (nzB c) (W.drop c)).2.2.1 hneg
 have hz : ∀ i r, W[i]? = some r → c ≤ i → r.getD c 0 = 0 := by
  intro i r hr hi
  have h1 := List.any_eq_false.1 hany r (List.mem_iff_getElem?.2 ⟨i - c, by rw [List.getElem?_drop, show c + (i - c) = i by omega]; exact hr⟩)
  simpa [nzB] using h1
 obtain ⟨v, hv⟩ : ∃ v : List Nat, v = (List.range n).map (fun j => if j < c then ((W.getD j []).getD c 0).toNat else if j = c then 1 else 0) := ⟨_, rfl⟩
 have vlen : v.length = n := by rw [hv]; simp
 have vat : ∀ j, j < n → v.getD j 0 = if j < c then ((W.getD j []).getD c 0).toNat else if j = c then 1 else 0 := by
  intro j hj
  rw [hv, List.getD_eq_getElem?_getD]
  simp [hj]
 have hin : ∀ x, x ∈ v → x < fN wb := by
  intro x hx
  rw [hv] at hx
  obtain ⟨j, hj, rfl⟩ := List.mem_map.1 hx
  have hj : j < n := by simpa using hj
  have p1 := one_ltN hw
  split
  ·obtain ⟨r, hr⟩ : ∃ r, W[j]? = some r := ⟨_, List.getElem?_eq_getElem (by rw [h.len]; exact hj)⟩
   have hWr : W.getD j [] = r := by rw [List.getD_eq_getElem?_getD, hr]; rfl
   rw [hWr]
   exact a4z hw (bEz (h.good r (List.mem_of_getElem? hr)) c)
  ·split <;> omega
 have hall := h.inj v vlen hin (by
  intro r hr
  obtain ⟨i, hi⟩ := List.mem_iff_getElem?.1 hr
  have hil := (List.getElem?_eq_some_iff.1 hi).1
  rw [h.len] at hil
  by_cases hic : i < c
  ·refine evN_two hw r v i c hic (by omega) (by rw [h.unit i r hi i hic, if_pos rfl]) (by rw [vat c hc, if_neg (Nat.lt_irrefl _), if_pos rfl]) (by
    have hWr : W.getD i [] = r := by rw [List.getD_eq_getElem?_getD, hi]; rfl
    rw [vat i hil, if_pos hic, hWr]) (bEz (h.good r hr) c) ?_
   intro j hj hji hjc
   by_cases hjl : j < c
   ·exact .inl (by rw [h.unit i r hi j hjl, if_neg (Ne.symm hji)])
   ·exact .inr (by rw [vat j (by omega), if_neg hjl, if_neg hjc])
  ·refine evN_off hw r v ?_
   intro j hj
   by_cases hjl : j < c
   ·exact .inl (by rw [h.unit i r hi j hjl, if_neg (by omega)])
   ·by_cases hjc : j = c
    ·exact .inl (by rw [hjc]; exact hz i r hi (by omega))
    ·exact .inr (by rw [vat j (by omega), if_neg hjl, if_neg hjc]))
 have h1 : v.getD c 0 = 1 := by rw [vat c hc, if_neg (Nat.lt_irrefl _), if_pos rfl]
 have h2 : v.getD c 0 = 0 := by
  rw [List.getD_eq_getElem?_getD, List.getElem?_eq_getElem (by omega)]
  exact hall _ (List.getElem_mem _)
 omega
theorem RI.step {n c : Nat} {u b : List Nat} {W : List (List Int)} (h : RI wb n u b c W) (hc : c < n) : RI wb n u b (c + 1) (redStep wb c W c).1 ∧ (redStep wb c W c).2 = c + 1 := by
 have hp := h.pivot hw hc
 have hg := dxz hw (n + n) c W c h.good
 revert hg
 unfold redStep
 have hat := idxF_at' (nzB c) (W.drop c) hp
 have hz := b4z (nzB c) (W.drop c)
 generalize idxF (nzB c) (W.drop c) = z at *
 dsimp only
 rw [if_neg hp]
 obtain ⟨pr, hpr, hnz⟩ := hat
 rw [List.getElem?_drop] at hpr
 obtain ⟨k, hk⟩ : ∃ k, c + z.toNat = k := ⟨_, rfl⟩
 rw [hk] at hpr ⊢
 have hkc : c ≤ k := by omega
 obtain ⟨q, hq⟩ : ∃ q, W[c]? = some q := ⟨_, List.getElem?_eq_getElem (by rw [h.len]; exact hc)⟩
 have hsw := bPz W c k q pr hq hpr
 have hsl := bOz W c k
 have hsm := swapL_mem W c k
 generalize swapL W c k = R at *
 have hRc : R[c]? = some pr := by
  rw [hsw]
  by_cases hck : c = k
  ·rw [if_pos hck]; subst hck; rw [← hq, hpr]
  ·rw [if_neg hck, if_pos rfl]
 have hRcD : R.getD c [] = pr := by rw [List.getD_eq_getElem?_getD, hRc]; rfl
 rw [hRcD]
 have hgp := h.good pr (List.mem_of_getElem? hpr)
 have hpc := bEz hgp c
 have hpc0 : pr.getD c 0 ≠ 0 := by simpa [nzB] using hnz
 obtain ⟨a, ha⟩ : ∃ a : Nat, pr.getD c 0 = (a : Int) := ⟨(pr.getD c 0).toNat, by omega⟩
 have haN : a < fN wb := by have := a4z hw hpc; rw [ha] at this; simpa using this
 have hir := dnz hw (pr.getD c 0)
 have hinv := gmN_inv hw haN (by omega)
 rw [← ha] at hinv
 obtain ⟨i, hi⟩ : ∃ i, ginv wb (pr.getD c 0) = i := ⟨_, rfl⟩
 rw [hi] at hir hinv ⊢
 have hiN := a4z hw hir
 obtain ⟨p2, hp2⟩ : ∃ p2, List.zipWith (fun x _ => gmul wb x i) pr pr = p2 := ⟨_, rfl⟩
 have e2 : ∀ v, evN wb p2 v = gmN wb i.toNat (evN wb pr v) := fun v => by rw [← hp2]; exact evN_scl hw hir pr v hgp.2
 have d2 : ∀ j, p2.getD j 0 = gmul wb (pr.getD j 0) i := fun j => by rw [← hp2]; exact getD_zip (fun x _ => gmul wb x i) (cjz _ _) pr pr j rfl
 have hgp2 : Good wb (n + n) p2 := by rw [← hp2]; exact zip_good _ hgp hgp (fun x y _ _ => a7z hw _ _)
 rw [hp2]
 have hset : ∀ i, i ≠ c → (R.set c p2)[i]? = R[i]? := fun i hi => by rw [List.getElem?_set_ne (Ne.symm hi)]
 have hsetc : (R.set c p2)[c]? = some p2 := by rw [List.getElem?_set_self (by rw [hsl, h.len]; exact hc)]
 have new : ∀ i r, (clrAll wb c c p2 (R.set c p2))[i]? = some r → (i = c ∧ r = p2) ∨ (i ≠ c ∧ ∃ r0, R[i]? = some r0 ∧ r = List.zipWith (clrF wb (r0.getD c 0)) r0 p2) := by
  intro i r hr
  by_cases hic : i = c
  ·subst hic
   rw [bQz _ _ _ _ _ _ p2 hsetc, if_pos rfl] at hr
   exact .inl ⟨rfl, by injection hr with e; exact e.symm⟩
  ·obtain ⟨r0, hr0⟩ : ∃ r0, R[i]? = some r0 := ⟨_, List.getElem?_eq_getElem (by have := (List.getElem?_eq_some_iff.1 hr).1; rw [bcz, List.length_set] at this; exact this)⟩
   rw [bQz _ _ _ _ _ _ r0 (by rw [hset i hic]; exact hr0), if_neg hic] at hr
   exact .inr ⟨hic, r0, hr0, by injection hr with e; exact e.symm⟩
 have old : ∀ i r0, R[i]? = some r0 → i ≠ c → List.zipWith (clrF wb (r0.getD c 0)) r0 p2 ∈ clrAll wb c c p2 (R.set c p2) := by
  intro i r0 hr0 hic
  refine List.mem_iff_getElem?.2 ⟨i, ?_⟩
  rw [bQz _ _ _ _ _ _ r0 (by rw [hset i hic]; exact hr0), if_neg hic]
 have oldc : p2 ∈ clrAll wb c c p2 (R.set c p2) := by
  refine List.mem_iff_getElem?.2 ⟨c, ?_⟩
  rw [bQz _ _ _ _ _ _ p2 hsetc, if_pos rfl]
 have goodR : ∀ i r0, R[i]? = some r0 → Good wb (n + n) r0 := fun i r0 hr0 => h.good r0 (hsm r0 (List.mem_of_getElem? hr0))
 have eclr : ∀ (i : Nat) (r0 : List Int) (v : List Nat), R[i]? = some r0 → evN wb (List.zipWith (clrF wb (r0.getD c 0)) r0 p2) v = evN wb r0 v ^^^ gmN wb (r0.getD c 0).toNat (evN wb p2 v) := by
  intro i r0 v hr0
  have hg0 := goodR i r0 hr0
  exact evN_clr hw (bEz hg0 c) r0 p2 v (hg0.1.trans hgp2.1.symm) hg0.2 hgp2.2
 have prz : ∀ j, j < c → pr.getD j 0 = 0 := fun j hj => by rw [h.unit k pr hpr j hj, if_neg (by omega)]
 have p2z : ∀ j, j < c → p2.getD j 0 = 0 := fun j hj => by rw [d2, prz j hj, cjz]
 have p2c : p2.getD c 0 = 1 := by
  refine cWz (bEz hgp2 c).1 (by omega) ?_
  rw [d2, cFz hpc hir, ha]
  simpa using hinv
 have Runit : ∀ i r0, R[i]? = some r0 → i ≠ c → ∀ j, j < c → r0.getD j 0 = if i = j then 1 else 0 := by
  intro i r0 hr0 hic j hj
  rw [hsw] at hr0
  by_cases hik : i = k
  ·rw [if_pos hik] at hr0
   injection hr0 with e
   subst e
   rw [h.unit c q hq j hj, if_neg (by omega), if_neg (by omega)]
  ·rw [if_neg hik, if_neg hic] at hr0
   exact h.unit i r0 hr0 j hj
 have Rall : ∀ r, r ∈ W → r = pr ∨ ∃ i, i ≠ c ∧ R[i]? = some r := by
  intro r hr
  obtain ⟨i, hi⟩ := List.mem_iff_getElem?.1 hr
  by_cases hik : i = k
  ·subst hik; rw [hpr] at hi; injection hi with e; exact .inl e.symm
  ·by_cases hic : i = c
   ·rw [hic, hq] at hi
    injection hi with e
    subst e
    exact .inr ⟨k, fun e => hik (hic.trans e.symm), by rw [hsw, if_pos rfl]⟩
   ·exact .inr ⟨i, hic, by rw [hsw, if_neg hik, if_neg hic]; exact hi⟩
 intro hg
 refine ⟨⟨hg.2.trans h.len, hg.1, ?_, ?_, ?_⟩, rfl⟩
 ·intro r hr
  obtain ⟨i, hi⟩ := List.mem_iff_getElem?.1 hr
  have z2 : evN wb p2 (u ++ b) = 0 := by rw [e2, h.zero pr (List.mem_of_getElem? hpr), bMz hw]
  rcases new i r hi with ⟨-, rfl⟩ | ⟨-, r0, hr0, rfl⟩
  ·exact z2
  ·rw [eclr i r0 _ hr0, z2, bMz hw, h.zero r0 (hsm r0 (List.mem_of_getElem? hr0))]
   rfl
 ·intro i r hr j hj
  rcases new i r hr with ⟨rfl, rfl⟩ | ⟨hic, r0, hr0, rfl⟩
  ·by_cases hji : j = i
   ·subst hji; rw [p2c, if_pos rfl]
   ·rw [p2z j (by omega), if_neg (fun e => hji e.symm)]
  ·have hg0 := goodR i r0 hr0
   have hc0 := bEz hg0 c
   rw [getD_zip _ (by unfold clrF; rw [c0z]; rfl) r0 p2 j (hg0.1.trans hgp2.1.symm)]
   have hd := bEz hg0 j
   have hd2 := bEz hgp2 j
   have key : (clrF wb (r0.getD c 0) (r0.getD j 0) (p2.getD j 0)).toNat = (r0.getD j 0).toNat ^^^ gmN wb (r0.getD c 0).toNat (p2.getD j 0).toNat := by
    unfold clrF
    rw [bx_toNat hw hd (a7z hw _ _), cFz hc0 hd2]
   have hrng : 0 ≤ clrF wb (r0.getD c 0) (r0.getD j 0) (p2.getD j 0) := by unfold clrF; exact (c4z hw hd (a7z hw _ _)).1
   by_cases hjc : j = c
   ·subst hjc
    rw [if_neg hic]
    refine cWz hrng (by omega) ?_
    rw [key, p2c]
    show _ ^^^ gmN wb _ 1 = 0
    rw [gmN_id hw (a4z hw hd), Nat.xor_self]
   ·have hjl : j < c := by omega
    refine cWz hrng (by split <;> omega) ?_
    rw [key, p2z j hjl]
    show _ ^^^ gmN wb _ 0 = _
    rw [bMz hw, Nat.xor_zero, Runit i r0 hr0 hic j hjl]
 ·intro v hv hin hz0
  refine h.inj v hv hin ?_
  have z2 : evN wb p2 v = 0 := hz0 p2 oldc
  intro r hr
  rcases Rall r hr with rfl | ⟨i, hic, hi⟩
  ·have h1 : gmN wb a (evN wb p2 v) = 0 := by rw [z2, bMz hw]
   have e3 : gmN wb a i.toNat = 1 := hinv
   rw [e2, ← gmN_asc hw haN hiN, e3] at h1
   rwa [gmN_idl hw (evN_lt hw r v hgp.2)] at h1
  ·have h1 := hz0 _ (old i r hi hic)
   rw [eclr i r v hi, z2, bMz hw, Nat.xor_zero] at h1
   exact h1
theorem RI.all {n : Nat} {u b : List Nat} : ∀ (m c : Nat) (W : List (List Int)), RI wb n u b c W → c + m = n → RI wb n u b n (redF wb m c W c).1 ∧ (redF wb m c W c).2 = n
 | 0, c, W, h, e => by
  have : c = n := by omega
  subst this
  exact ⟨h, rfl⟩
 | m + 1, c, W, h, e => by
  have hs := h.step hw (by omega)
  unfold redF
  rw [if_neg (by rw [h.len]; omega), hs.2]
  exact RI.all m (c + 1) _ hs.1 (by omega)
end
end Go.Proofs.YtpdakdcmahlghaaGreat.XCo
end
section
namespace Go.Proofs.YtpdakdcmahlghaaGreat.XCo
open Go.RowKit Go.Proofs.YtpdakdcmahlghaaGreatW.PrintWords Go.Proofs.YtpdakdcmahlghaaGreatW.PrintLast Go.Proofs.YtpdakdcmahlghaaGreatW.PrintMore
attribute [local go_sem] aBz aCz aIz aJz auz avz aDz aEz
set_option linter.unusedVariables false
set_option linter.unusedSimpArgs false
def unitN (p : Int) : Nat := if p ≤ 2 then 8 else if p ≤ 4 then 16 else 1
def aheadN (p : Int) : Nat := if p = 5 then 4 else 0
theorem rule_eq {p : Int} (h1 : 1 ≤ p) (h2 : p ≤ 6) (k m : Int) : bnz.f p k m = some ((unitN p : Int), (aheadN p : Int)) := by
 have : p = 1 ∨ p = 2 ∨ p = 3 ∨ p = 4 ∨ p = 5 ∨ p = 6 := by omega
 rcases this with rfl | rfl | rfl | rfl | rfl | rfl <;> rfl
theorem w64 {x : Int} (h0 : -1 ≤ x) (h1 : x < 1000000000) : wrap64 x = x := by unfold wrap64; omega
theorem cXz (p : Int) : 1 ≤ unitN p ∧ unitN p ≤ 16 := by unfold unitN; split <;> (try split) <;> omega
theorem c9z (p : Int) : aheadN p ≤ 4 := by unfold aheadN; split <;> omega
def sizeN (p : Int) (K n : Nat) : Nat := unitN p * max ((n + aheadN p + unitN p * K - 1) / (unitN p * K)) 1
theorem sizeN_room (p : Int) (K n : Nat) (hK : 1 ≤ K) : n + aheadN p ≤ sizeN p K n * K := by
 have hu := (cXz p).1
 unfold sizeN
 generalize n + aheadN p = t
 obtain ⟨s, hs⟩ : ∃ s, unitN p * K = s := ⟨_, rfl⟩
 have hs1 : 1 ≤ s := by rw [← hs]; exact Nat.mul_pos hu hK
 rw [hs]
 have h1 := Nat.div_add_mod (t + s - 1) s
 have h2 := Nat.mod_lt (t + s - 1) (show 0 < s from hs1)
 have h3 : s * ((t + s - 1) / s) ≤ s * max ((t + s - 1) / s) 1 := Nat.mul_le_mul_left _ (Nat.le_max_left _ _)
 have h4 : unitN p * max ((t + s - 1) / s) 1 * K = s * max ((t + s - 1) / s) 1 := by rw [← hs, Nat.mul_assoc, Nat.mul_comm (max _ _) K, ← Nat.mul_assoc]
 rw [h4]
 omega
theorem sizeN_pos (p : Int) (K n : Nat) : 1 ≤ sizeN p K n := by
 unfold sizeN
 exact Nat.mul_pos (cXz p).1 (Nat.lt_of_lt_of_le Nat.one_pos (Nat.le_max_right _ _))
theorem dpz (p : Int) (K n : Nat) (hK : 1 ≤ K) (hK2 : K ≤ 8) (hn : n ≤ 4096) : sizeN p K n ≤ 80000 := by
 have hu := cXz p
 have ha := c9z p
 have h1 : (n + aheadN p + unitN p * K - 1) / (unitN p * K) ≤ 4300 := by
  have h2 : unitN p * K ≤ 16 * 8 := Nat.mul_le_mul hu.2 hK2
  exact Nat.le_trans (Nat.div_le_self _ _) (by omega)
 unfold sizeN
 exact Nat.le_trans (Nat.mul_le_mul hu.2 (show max ((n + aheadN p + unitN p * K - 1) / (unitN p * K)) 1 ≤ 4300 by omega)) (by omega)
theorem sizeN_even (p : Int) (K n : Nat) : sizeN p K n % wN (pbits p) = 0 := by
 unfold pbits
 by_cases h : p = 2
 ·subst h
  rw [if_pos rfl]
  show (8 * _) % 2 = 0
  omega
 ·rw [if_neg h]
  show _ % 1 = 0
  omega
theorem size_ev (p : Int) (K M n : Nat) (hmay : aez.f p (K : Int) (M : Int) = some true) (hn : n ≤ 4096) : Ev (fun k => anz.f k p (K : Int) (M : Int) (n : Int)) ((sizeN p K n : Int), 0) := by
 obtain ⟨p1, p2, k1, k2, m1, m2⟩ := bGz hmay
 have hu := cXz p
 have ha := c9z p
 have hup : unitN p * K ≤ 16 * 8 := Nat.mul_le_mul hu.2 (by omega)
 have hu1 : 1 ≤ unitN p * K := Nat.mul_pos hu.1 (by omega)
 refine Ev.of (fun k => anz.mono _ _ _ _ k) (k := 1) ?_
 unfold anz.f
 rw [hmay, Option.bind_some, if_pos rfl, show decide ((n : Int) < 0) = false by simp]
 rw [anz.j0]
 rw [if_neg (by decide), if_neg (by omega), rule_eq p1 p2, Option.bind_some]
 have w1 : wrap64 ((unitN p : Int) * (K : Int)) = ((unitN p * K : Nat) : Int) := by
  rw [← Int.natCast_mul]; unfold wrap64; omega
 dsimp only
 rw [w1, if_neg (by omega)]
 have w2 : wrap64 (wrap64 (wrap64 ((n : Int) + (aheadN p : Int)) + ((unitN p * K : Nat) : Int)) - 1) = ((n + aheadN p + unitN p * K - 1 : Nat) : Int) := by
  generalize unitN p * K = s at hup hu1 ⊢
  generalize aheadN p = a at ha ⊢
  rw [w64 (x := (n : Int) + (a : Int)) (by omega) (by omega), w64 (x := (n : Int) + (a : Int) + (s : Int)) (by omega) (by omega), w64 (x := (n : Int) + (a : Int) + (s : Int) - 1) (by omega) (by omega)]
  omega
 rw [w2, show Int.tdiv ((n + aheadN p + unitN p * K - 1 : Nat) : Int) ((unitN p * K : Nat) : Int) = (((n + aheadN p + unitN p * K - 1) / (unitN p * K) : Nat) : Int) from (Int.ofNat_tdiv _ _).symm]
 have hle := dpz p K n (by omega) (by omega) hn
 unfold sizeN at hle ⊢
 have hq : (n + aheadN p + unitN p * K - 1) / (unitN p * K) ≤ 4300 := Nat.le_trans (Nat.div_le_self _ _) (by omega)
 generalize (n + aheadN p + unitN p * K - 1) / (unitN p * K) = q at hle hq ⊢
 have w3 : mx (wrap64 (q : Int)) 1 = ((max q 1 : Nat) : Int) := by
  rw [show wrap64 (q : Int) = (q : Int) by unfold wrap64; omega]
  unfold mx
  split <;> omega
 rw [w3, ← Int.natCast_mul]
 rw [show wrap64 ((unitN p * max q 1 : Nat) : Int) = ((unitN p * max q 1 : Nat) : Int) by unfold wrap64; omega]
theorem fill_some (size K : Nat) (hs : 1 ≤ size) : ∀ (cs : List Int) (i : Nat) (rows : List (List Int)), rows.length = K → (∀ r, r ∈ rows → r.length = size) → i + cs.length ≤ size * K →
  ∃ r, azz.fill size cs i rows = some r ∧ r.length = K ∧ (∀ x, x ∈ r → x.length = size) ∧ (∀ P : Int → Prop, (∀ c, c ∈ cs → P c) → (∀ x, x ∈ rows → ∀ c, c ∈ x → P c) → ∀ x, x ∈ r → ∀ c, c ∈ x → P c)
 | [], i, rows, h1, h2, h3 => ⟨rows, rfl, h1, h2, fun P _ h => h⟩
 | c :: cs, i, rows, h1, h2, h3 => by
  have hlt : i / size < rows.length := by
   rw [h1]
   exact (Nat.div_lt_iff_lt_mul hs).2 (by rw [Nat.mul_comm]; simp at h3; omega)
  obtain ⟨row, hrow⟩ : ∃ r, rows[i / size]? = some r := ⟨_, List.getElem?_eq_getElem hlt⟩
  have hm := List.mem_of_getElem? hrow
  have hd : rows.getD (i / size) [] = row := by rw [List.getD_eq_getElem?_getD, hrow]; rfl
  obtain ⟨r, q1, q2, q3, q4⟩ := fill_some size K hs cs (i + 1) (rows.set (i / size) (row.set (i % size) c)) (by rw [List.length_set]; exact h1) (fun x hx => by
   rcases List.mem_or_eq_of_mem_set hx with hx | rfl
   ·exact h2 x hx
   ·rw [List.length_set]; exact h2 row hm) (by simp at h3; omega)
  refine ⟨r, ?_, q2, q3, fun P hc hr => q4 P (fun c hh => hc c (List.mem_cons_of_mem _ hh)) (fun x hx => ?_)⟩
  ·simp only [azz.fill]
   rw [if_pos hlt, hd]
   exact q1
  ·rcases List.mem_or_eq_of_mem_set hx with hx | rfl
   ·exact hr x hx
   ·intro y hy
    rcases List.mem_or_eq_of_mem_set hy with hy | rfl
    ·exact hr row hm y hy
    ·exact hc _ (List.mem_cons_self ..)
theorem laidL_len (p : Int) (b : List Int) : (laidL (aheadN p) b).length = b.length + aheadN p := by
 unfold laidL four4
 have := c9z p
 simp; omega
theorem laidL_byte (a : Nat) (b : List Int) (hb : ∀ x, x ∈ b → 0 ≤ x ∧ x ≤ 255) : ∀ x, x ∈ laidL a b → 0 ≤ x ∧ x ≤ 255 := by
 intro x hx
 unfold laidL at hx
 rcases List.mem_append.1 hx with h | h
 ·have h := List.mem_of_mem_drop h
  simp only [four4, List.mem_cons, List.mem_nil_iff, or_false] at h
  rcases h with rfl | rfl | rfl | rfl <;> omega
 ·exact hb x h
theorem split_ev (p : Int) (K M : Nat) (b : List Int) (hmay : aez.f p (K : Int) (M : Int) = some true) (hn : b.length ≤ 4096) :
  ∃ data, data.length = K ∧ (∀ r, r ∈ data → r.length = sizeN p K b.length) ∧ ((∀ x, x ∈ b → 0 ≤ x ∧ x ≤ 255) → ∀ r, r ∈ data → ∀ x, x ∈ r → 0 ≤ x ∧ x ≤ 255) ∧ azz.fill (sizeN p K b.length) (laidL (aheadN p) b) 0 (List.replicate K (List.replicate (sizeN p K b.length) 0)) = some data ∧ Ev (fun k => azz.f k p (K : Int) (M : Int) b) (data, 0) := by
 obtain ⟨p1, p2, k1, k2, m1, m2⟩ := bGz hmay
 have hz1 := sizeN_pos p K b.length
 have hz2 := dpz p K b.length (by omega) (by omega) hn
 have hz3 := sizeN_room p K b.length (by omega)
 obtain ⟨data, q1, q2, q3, q4⟩ := fill_some (sizeN p K b.length) K hz1 (laidL (aheadN p) b) 0 (List.replicate K (List.replicate (sizeN p K b.length) 0)) (by simp) (fun r hr => by rw [List.eq_of_mem_replicate hr]; simp) (by rw [laidL_len]; omega)
 refine ⟨data, q2, q3, fun hb => q4 _ (laidL_byte _ b hb) (fun x hx c hc => by
  rw [List.eq_of_mem_replicate hx] at hc
  rw [List.eq_of_mem_replicate hc]
  omega), q1, ?_⟩
 obtain ⟨k0, hk0⟩ := size_ev p K M b.length hmay hn
 refine ⟨k0, fun k hk => ?_⟩
 have h1 : anz.f k p (K : Int) (M : Int) (b.length : Int) = some ((sizeN p K b.length : Int), 0) := hk0 k hk
 show azz.f k p (K : Int) (M : Int) b = some (data, 0)
 unfold azz.f
 rw [h1, Option.bind_some, if_pos rfl, if_pos (by omega), if_pos (by omega), if_pos (by show (1 : Int) ≤ _; omega), if_pos (by show _ ≤ (100000 : Int); omega), if_pos (by omega), rule_eq p1 p2, Option.bind_some, if_pos (by have := c9z p; dsimp only; unfold aheadN; split <;> omega), Int.toNat_natCast, Int.toNat_natCast, Int.toNat_natCast, q1]
 rfl
theorem parV_len (L : Nat) (p : Int) (K M : Nat) (data : List (List Int)) (hmay : aez.f p (K : Int) (M : Int) = some true) : (parV L p K M data).length = M := by
 obtain ⟨p1, p2, k1, k2, m1, m2⟩ := bGz hmay
 unfold parV
 rw [List.length_map, (parM_good p K M (by omega) (by omega) (by omega) (by omega)).2]
theorem eqb_loop (x y : List Int) (n : Nat) (hx : x.length = n) (hy : y.length = n) (hn : n ≤ 100000000) : ∀ (m i : Nat), i + m = n → Ev (fun k => akz.l0 k x y (n : Int) (i : Int)) (decide (x.drop i = y.drop i)) := by
 intro m
 induction m with
 | zero =>
  intro i hi
  refine Ev.step (f := fun _ => some true) (fun k => ?_) ?_
  ·rw [akz.l0, if_neg (by omega)]
  ·rw [List.drop_of_length_le (by omega), List.drop_of_length_le (by omega)]
   exact Ev.now _
 | succ m ih =>
  intro i hi
  have hix : i < x.length := by omega
  have hiy : i < y.length := by omega
  have e1 : rd x (i : Int) = x[i] := by unfold rd; rw [Int.toNat_natCast, List.getD_eq_getElem?_getD, List.getElem?_eq_getElem hix]; rfl
  have e2 : rd y (i : Int) = y[i] := by unfold rd; rw [Int.toNat_natCast, List.getD_eq_getElem?_getD, List.getElem?_eq_getElem hiy]; rfl
  have d1 := List.drop_eq_getElem_cons hix
  have d2 := List.drop_eq_getElem_cons hiy
  by_cases h : x[i] = y[i]
  ·refine Ev.step (f := fun k => akz.l0 k x y (n : Int) ((i + 1 : Nat) : Int)) (fun k => ?_) ?_
   ·rw [akz.l0, if_pos (by omega), if_pos (by omega), if_pos (by omega), if_pos (by omega), e1, e2, if_pos h, cEz (by omega)]
   ·have := ih (i + 1) (by omega)
    rw [d1, d2]
    rw [show decide (x[i] :: x.drop (i + 1) = y[i] :: y.drop (i + 1)) = decide (x.drop (i + 1) = y.drop (i + 1)) by rw [h]; simp only [List.cons.injEq, true_and]]
    exact this
  ·refine Ev.step (f := fun _ => some false) (fun k => ?_) ?_
   ·rw [akz.l0, if_pos (by omega), if_pos (by omega), if_pos (by omega), if_pos (by omega), e1, e2, if_neg h]
   ·rw [d1, d2, decide_eq_false (by intro hh; injection hh with h1 _; exact h h1)]
    exact Ev.now _
theorem eqb_ev (x y : List Int) (hx : x.length ≤ 100000000) : Ev (fun k => akz.f k x y) (decide (x = y)) := by
 by_cases hl : x.length = y.length
 ·have h := eqb_loop x y x.length rfl hl.symm hx x.length 0 (by omega)
  refine Ev.congr (fun k => ?_) (by simpa using h)
  unfold akz.f
  rw [if_pos (by omega)]
 ·refine Ev.congr (f := fun _ => some false) (fun k => ?_) ?_
  ·unfold akz.f
   rw [if_neg (by omega)]
  ·rw [decide_eq_false (by rintro rfl; exact hl rfl)]
   exact Ev.now _
theorem eqRows_dec : ∀ (p q : List (List Int)), (∀ x, x ∈ p → x.length ≤ 100000000) → Ev (fun k => eqRows k p q) (decide (p = q))
 | [], [], _ => by simp only [eqRows]; exact Ev.now _
 | [], _ :: _, _ => by simp only [eqRows]; exact Ev.now _
 | _ :: _, [], _ => by simp only [eqRows]; exact Ev.now _
 | x :: xs, y :: ys, h => by
  simp only [eqRows]
  refine Ev.bind (eqb_ev x y (h x (List.mem_cons_self ..))) ?_
  by_cases hxy : x = y
  ·refine Ev.congr (f := fun k => eqRows k xs ys) (fun k => by rw [if_pos (decide_eq_true hxy)]) ?_
   have := eqRows_dec xs ys (fun z hz => h z (List.mem_cons_of_mem _ hz))
   simpa [hxy] using this
  ·refine Ev.congr (f := fun _ => some false) (fun k => by rw [decide_eq_false hxy, if_neg (by decide)]) ?_
   rw [decide_eq_false (by intro hh; injection hh with h1 _; exact hxy h1)]
   exact Ev.now _
theorem eqFunc_dec (p q : List (List Int)) (hl : p.length ≤ 1000000) (h : ∀ x, x ∈ p → x.length ≤ 100000000) : Ev (fun k => eqFunc k p q) (decide (p = q)) := by
 by_cases hpq : p.length = q.length
 ·refine Ev.congr (fun k => ?_) (eqRows_dec p q h)
  unfold eqFunc
  rw [if_pos hpq, if_pos hl]
 ·refine Ev.congr (f := fun _ => some false) (fun k => ?_) ?_
  ·unfold eqFunc
   rw [if_neg hpq]
  ·rw [decide_eq_false (by rintro rfl; exact hpq rfl)]
   exact Ev.now _
theorem ver_dec (p : Int) (K M L : Nat) (data Q : List (List Int)) (hmay : aez.f p (K : Int) (M : Int) = some true) (hK : data.length = K) (hL : L ≤ 1000000) (hd : L % wN (pbits p) = 0) (hr : ∀ r, r ∈ data → r.length = L) (hQ : Q.length = M) :
  Ev (fun k => aTz.f k p (K : Int) (M : Int) (data ++ Q)) (decide (parV L p K M data = Q)) := by
 have h1 := par_ev p K M L data hmay hK hL hd hr
 have hl := parV_len L p K M data hmay
 obtain ⟨p1, p2, k1, k2, m1, m2⟩ := bGz hmay
 have h2 := eqFunc_dec (parV L p K M data) Q (by omega) (fun x hx => by
  unfold parV at hx
  obtain ⟨c, -, rfl⟩ := List.mem_map.1 hx
  rw [dotV_len hd hr]; omega)
 have ht : (data ++ Q).take K = data := by rw [← hK, List.take_left']; rfl
 have hdr : (data ++ Q).drop K = Q := by rw [← hK, List.drop_left']; rfl
 refine Ev.congr (f := fun k => (alz.f k p (K : Int) (M : Int) data).bind fun t => if t.2 = 0 then eqFunc k t.1 Q else some false) (fun k => ?_) ?_
 ·unfold aTz.f
  rw [hmay, Option.bind_some, if_pos rfl, if_pos (by rw [List.length_append, hK, hQ]; omega), Int.toNat_natCast, ht, hdr]
 ·refine Ev.bind h1 ?_
  refine Ev.congr (fun k => ?_) h2
  rw [if_pos rfl]
theorem cYz : ∀ b, b < 13 → Go.bits .xor .i64 0 ((b : Nat) : Int) = (b : Int) := by decide +kernel
def mayQ (q : Int) (K M : Nat) : Bool := aez.f q (K : Int) (M : Int) == some true
def verB (S : Nat) (q : Int) (K M : Nat) (L : List (List Int)) : Bool := decide (parV S q K M (L.take K) = L.drop K)
def longB (S : Nat) (q : Int) : Bool := decide (0 < S) && decide (S % unitN q = 0)
def passB (S : Nat) (q : Int) (K M : Nat) (L : List (List Int)) : Bool := mayQ q K M && (longB S q && verB S q K M L)
theorem mayQ_true {q : Int} {K M : Nat} : mayQ q K M = true ↔ aez.f q (K : Int) (M : Int) = some true := by
 unfold mayQ
 obtain ⟨b, hb⟩ := doz q (K : Int) (M : Int)
 rw [hb]
 cases b <;> simp
theorem six {q : Int} (h1 : 1 ≤ q) (h2 : q ≤ 6) : q = 1 ∨ q = 2 ∨ q = 3 ∨ q = 4 ∨ q = 5 ∨ q = 6 := by omega
theorem unit_even {q : Int} (h1 : 1 ≤ q) (h2 : q ≤ 6) {S : Nat} (h : S % unitN q = 0) : S % wN (pbits q) = 0 := by
 have one : ∀ p : Int, wN (pbits p) = 1 → S % wN (pbits p) = 0 := fun p hp => by rw [hp]; exact Nat.mod_one S
 rcases six h1 h2 with rfl | rfl | rfl | rfl | rfl | rfl
 ·exact one 1 rfl
 ·have e1 : wN (pbits 2) = 2 := rfl
  have e2 : S % 8 = 0 := h
  rw [e1]
  omega
 ·exact one 3 rfl
 ·exact one 4 rfl
 ·exact one 5 rfl
 ·exact one 6 rfl
theorem size_unit {q : Int} (h1 : 1 ≤ q) (h2 : q ≤ 6) : sizeN q 8 0 = unitN q ∧ aez.f q ((8 : Nat) : Int) ((1 : Nat) : Int) = some true := by
 rcases six h1 h2 with rfl | rfl | rfl | rfl | rfl | rfl <;> exact ⟨rfl, rfl⟩
theorem long_ev (S : Nat) (q K : Int) (h1 : 1 ≤ q) (h2 : q ≤ 6) (L : List (List Int)) (h0 : 0 < L.length) (hS : (rd_L1 L 0).length = S) : Ev (fun k => aUz.f k L K q) (longB S q) := by
 obtain ⟨e1, e2⟩ := size_unit h1 h2
 have hs := size_ev q 8 1 0 e2 (by omega)
 rw [e1] at hs
 have hu := cXz q
 refine Ev.congr (f := fun k => (anz.f k q ((8 : Nat) : Int) ((1 : Nat) : Int) ((0 : Nat) : Int)).bind fun bt => if (S : Int) > 0 then (if bt.1 = 0 then none else some (((S : Int) % bt.1) == 0)) else some false) (fun k => ?_) ?_
 ·unfold aUz.f
  rw [if_pos (by omega), hS]
  rfl
 ·refine Ev.bind hs ?_
  refine Ev.congr (f := fun _ => some (longB S q)) (fun k => ?_) (Ev.now _)
  dsimp only
  unfold longB
  by_cases hz : 0 < S
  ·rw [if_pos (by omega), if_neg (by omega), decide_eq_true hz, Bool.true_and]
   congr 1
   have e3 : ((S : Int) % (unitN q : Int)) = ((S % unitN q : Nat) : Int) := by omega
   rw [e3]
   generalize S % unitN q = m
   by_cases hm : m = 0
   ·rw [hm]; rfl
   ·rw [decide_eq_false hm]
    exact beq_eq_false_iff_ne.mpr (by omega)
  ·rw [if_neg (by omega), decide_eq_false hz]
   rfl
theorem pass_ev (q : Int) (K M S : Nat) (h1 : 1 ≤ q) (h2 : q ≤ 6) (L : List (List Int)) (hL : L.length = K + M) (hbig : K + M ≤ 1000000) (h0 : 0 < K + M) (hr : ∀ r, r ∈ L → r.length = S) (hS : S ≤ 1000000) : Ev (fun k => aQz.f k L (K : Int) q) (passB S q K M L) := by
 have hw : wrap64 ((L.length : Int) - (K : Int)) = (M : Int) := by rw [hL]; unfold wrap64; omega
 have hrd : (rd_L1 L 0).length = S := by
  unfold rd_L1
  rw [show Int.toNat 0 = 0 from rfl, List.getD_eq_getElem?_getD, List.getElem?_eq_getElem (by omega)]
  exact hr _ (List.getElem_mem _)
 have hlo := long_ev S q (K : Int) h1 h2 L (by omega) hrd
 refine Ev.congr (f := fun k => (aez.f q (K : Int) (M : Int)).bind fun t852 => (if t852 = true then ((aUz.f k L (K : Int) q).bind fun t853 => (if t853 = true then ((aTz.f k q (K : Int) (M : Int) L).bind fun t854 => (some t854)) else (some false))) else (some false))) (fun k => ?_) ?_
 ·unfold aQz.f aZz.f
  rw [Option.bind_some, hw]
 obtain ⟨b, hb⟩ := doz q (K : Int) (M : Int)
 unfold passB mayQ
 simp only [hb, Option.bind_some]
 cases b with
 | false => exact Ev.now _
 | true =>
  refine Ev.congr (f := fun k => (aUz.f k L (K : Int) q).bind fun t853 => (if t853 = true then ((aTz.f k q (K : Int) (M : Int) L).bind fun t854 => (some t854)) else (some false))) (fun k => by rw [if_pos rfl]) ?_
  refine Ev.bind hlo ?_
  cases hlb : longB S q with
  | false =>
   refine Ev.congr (fun k => ?_) (Ev.now _)
   rw [if_neg (by decide)]
   rfl
  | true =>
   unfold longB at hlb
   simp only [Bool.and_eq_true, decide_eq_true_eq] at hlb
   have hv := ver_dec q K M S (L.take K) (L.drop K) hb (by rw [List.length_take]; omega) hS (unit_even h1 h2 hlb.2) (fun r hr' => hr r (List.mem_of_mem_take hr')) (by rw [List.length_drop]; omega)
   rw [List.take_append_drop] at hv
   refine Ev.congr (f := fun k => (aTz.f k q (K : Int) (M : Int) L).bind fun t854 => (some t854)) (fun k => by rw [if_pos rfl]) ?_
   refine Ev.bind hv ?_
   refine Ev.congr (fun k => ?_) (Ev.now _)
   rfl
theorem trial_l_ev (L : List (List Int)) (K : Int) (b : Int → Bool) : ∀ (ps acc : List Int), (∀ q, q ∈ ps → Ev (fun k => aQz.f k L K q) (b q)) → Ev (fun k => arz.l k L K ps acc) (acc ++ ps.filter b)
 | [], acc, _ => by
  refine Ev.congr (fun k => ?_) (Ev.now _)
  rw [arz.l]
  simp
 | p :: ps, acc, h => by
  refine Ev.congr (f := fun k => (aQz.f k L K p).bind fun t => arz.l k L K ps (if t = true then acc ++ [p] else acc)) (fun k => by rw [arz.l]) ?_
  refine Ev.bind (h p (List.mem_cons_self ..)) ?_
  have ih := trial_l_ev L K b ps (if b p = true then acc ++ [p] else acc) (fun q hq => h q (List.mem_cons_of_mem _ hq))
  cases hp : b p with
  | true =>
   rw [hp, if_pos rfl] at ih
   rw [List.filter_cons_of_pos hp, if_pos rfl]
   rwa [List.append_assoc] at ih
  | false =>
   rw [hp, if_neg (by decide)] at ih
   rw [List.filter_cons_of_neg (by rw [hp]; decide), if_neg (by decide)]
   exact ih
def all6 : List Int := [1, 2, 3, 4, 5, 6]
theorem all_ev : Ev (fun k => aHz.f k) all6 := Ev.of (fun k => aHz.mono k) (k := 8) kr_
theorem all6_mem {q : Int} : q ∈ all6 ↔ 1 ≤ q ∧ q ≤ 6 := by
 unfold all6
 simp only [List.mem_cons, List.not_mem_nil, or_false]
 omega
theorem trial_ev (L : List (List Int)) (K : Int) (b : Int → Bool) (h : ∀ q, 1 ≤ q → q ≤ 6 → Ev (fun k => aQz.f k L K q) (b q)) : Ev (fun k => arz.f k L K) (all6.filter b) := by
 unfold arz.f
 refine Ev.bind all_ev ?_
 refine Ev.congr (f := fun k => arz.l k L K all6 []) (fun k => by rw [if_pos (by decide)]) ?_
 have := trial_l_ev L K b all6 [] (fun q hq => h q (all6_mem.1 hq).1 (all6_mem.1 hq).2)
 rwa [List.nil_append] at this
theorem daz (K M S : Nat) (L : List (List Int)) (hL : L.length = K + M) (hbig : K + M ≤ 1000000) (h0 : 0 < K + M) (hr : ∀ r, r ∈ L → r.length = S) (hS : S ≤ 1000000) : Ev (fun k => arz.f k L (K : Int)) (all6.filter fun q => passB S q K M L) :=
 trial_ev L (K : Int) _ (fun q h1 h2 => pass_ev q K M S h1 h2 L hL hbig h0 hr hS)
theorem in_ev (l : List Int) (n : Int) (hl : l.length ≤ 1000000) : Ev (fun k => aiz.f k l n) (decide (n ∈ l)) := by
 have key : ∀ (m i : Nat), i + m = l.length → Ev (fun k => aiz.l0 k l n (i : Int)) (decide (n ∈ l.drop i)) := by
  intro m
  induction m with
  | zero =>
   intro i hi
   refine Ev.step (f := fun _ => some false) (fun k => ?_) ?_
   ·rw [aiz.l0, if_neg (by omega)]
   ·rw [List.drop_of_length_le (by omega)]
    exact Ev.now _
  | succ m ih =>
   intro i hi
   have hx : l.drop i = l[i]'(by omega) :: l.drop (i + 1) := List.drop_eq_getElem_cons (by omega)
   have hrd : rd l (i : Int) = l[i]'(by omega) := by
    unfold rd
    rw [Int.toNat_natCast, List.getD_eq_getElem?_getD, List.getElem?_eq_getElem (by omega)]
    rfl
   by_cases he : l[i]'(by omega) = n
   ·refine Ev.step (f := fun _ => some true) (fun k => ?_) ?_
    ·rw [aiz.l0, if_pos (by omega), if_pos (by omega), hrd, if_pos he]
    ·rw [hx, decide_eq_true (by rw [he]; exact List.mem_cons_self ..)]
     exact Ev.now _
   ·refine Ev.step (f := fun k => aiz.l0 k l n ((i + 1 : Nat) : Int)) (fun k => ?_) ?_
    ·rw [aiz.l0, if_pos (by omega), if_pos (by omega), hrd, if_neg he, cEz (by omega)]
    ·have := ih (i + 1) (by omega)
     rw [hx]
     have e : (n ∈ l[i]'(by omega) :: l.drop (i + 1)) ↔ n ∈ l.drop (i + 1) := by
      rw [List.mem_cons]
      exact ⟨fun h => h.elim (fun h => absurd h.symm he) id, .inr⟩
     rw [decide_eq_decide.2 e]
     exact this
 have h := key l.length 0 (by omega)
 rwa [List.drop_zero] at h
theorem ginv_of {wb : Int} (hw : wb = 8 ∨ wb = 16) {a v : Nat} (ha : a < fN wb) (hv : v < fN wb) (h0 : a ≠ 0) (h : gmN wb a v = 1) : ginv wb (a : Int) = (v : Int) := by
 have hr := dnz hw (a : Int)
 obtain ⟨i, hi⟩ : ∃ i : Nat, ginv wb (a : Int) = (i : Int) := ⟨(ginv wb (a : Int)).toNat, by omega⟩
 have h1 := gmN_inv hw ha h0
 rw [hi, Int.toNat_natCast] at h1
 have hil : i < fN wb := by have := a4z hw hr; rw [hi] at this; simpa using this
 have h2 : gmN wb v (gmN wb a i) = v := by rw [h1, gmN_id hw hv]
 rw [← gmN_asc hw hv ha, gmN_comm hw hv ha, h, gmN_idl hw hil] at h2
 rw [hi, h2]
theorem g16_2 : ginv 16 2 = 34821 := ginv_of (.inr rfl) (a := 2) (v := 34821) (by decide) (by decide) (by decide) (by decide +kernel)
theorem g16_3 : ginv 16 3 = 61446 := ginv_of (.inr rfl) (a := 3) (v := 61446) (by decide) (by decide) (by decide) (by decide +kernel)
theorem g16_4 : ginv 16 4 = 52231 := ginv_of (.inr rfl) (a := 4) (v := 52231) (by decide) (by decide) (by decide) (by decide +kernel)
def awake16.b : List Int := [97, 98, 99, 100, 101, 102, 103, 104, 105, 106, 107, 108, 109, 110, 111, 112, 113, 114, 115, 116, 117, 118, 119, 120]
def awake16.l : List (List Int) := [[97, 98, 99, 100, 101, 102, 103, 104], [105, 106, 107, 108, 109, 110, 111, 112], [113, 114, 115, 116, 117, 118, 119, 120], [121, 122, 123, 124, 125, 126, 127, 96], [0, 0, 0, 0, 0, 0, 0, 235]]
theorem cmz (i : Nat) {S : Nat} {q : Int} {K M : Nat} {L : List (List Int)} (h : ((parV S q K M (L.take K))[i]? == (L.drop K)[i]?) = false) : verB S q K M L = false := by
 unfold verB
 refine decide_eq_false (fun he => ?_)
 rw [he] at h
 simp at h
theorem parV_0 (S : Nat) (q : Int) (K M : Nat) (data : List (List Int)) (c : List Int) (h : (parM q K M)[0]? = some c) : (parV S q K M data)[0]? = some (dotV S (pbits q) c data) := by
 unfold parV
 rw [List.getElem?_map, h]
 rfl
theorem awake16.m2 : (parM 2 3 2)[0]? = some [34821, 61446, 52231] := by
 have h : (parM 2 3 2)[0]? = some [ginv 16 2, ginv 16 3, ginv 16 4] := rfl
 rw [h, g16_2, g16_3, g16_4]
theorem awake16.m3 : (parM 2 2 3)[0]? = some [61446, 52231] := by
 have h : (parM 2 2 3)[0]? = some [ginv 16 3, ginv 16 4] := rfl
 rw [h, g16_3, g16_4]
theorem awake16.v2 : verB 8 2 3 2 awake16.l = false := cmz 0 (by rw [parV_0 8 2 3 2 _ _ awake16.m2]; kernel_rfl)
theorem awake16.v3 : verB 8 2 2 3 awake16.l = false := cmz 0 (by rw [parV_0 8 2 2 3 _ _ awake16.m3]; kernel_rfl)
theorem awake16.p1 : passB 8 1 3 2 awake16.l = true := by kernel_rfl
theorem awake16.p5 : verB 8 5 3 2 awake16.l = false := cmz 1 kr_
theorem awake16.p6 : verB 8 6 3 2 awake16.l = false := cmz 1 kr_
theorem awake16.q1 : verB 8 1 2 3 awake16.l = false := cmz 0 kr_
theorem awake16.q5 : verB 8 5 2 3 awake16.l = false := cmz 0 kr_
theorem awake16.q6 : verB 8 6 2 3 awake16.l = false := cmz 0 kr_
theorem bWz {S : Nat} {q : Int} {K M : Nat} {L : List (List Int)} (h : verB S q K M L = false) : passB S q K M L = false := by
 unfold passB
 rw [h, Bool.and_false, Bool.and_false]
theorem awake16.len : ∀ r, r ∈ awake16.l → r.length = 8 := by decide
theorem awake16.t3 : Ev (fun k => arz.f k awake16.l 3) [1] := by
 have h := daz 3 2 8 awake16.l rfl (by decide) (by decide) awake16.len (by decide)
 have e : (all6.filter fun q => passB 8 q 3 2 awake16.l) = [1] := by
  unfold all6
  simp only [List.filter_cons, awake16.p1, bWz awake16.v2, bWz awake16.p5, bWz awake16.p6, show passB 8 3 3 2 awake16.l = false from rfl, show passB 8 4 3 2 awake16.l = false from rfl, List.filter_nil]
  rfl
 rw [e] at h
 exact h
theorem awake16.t2 : Ev (fun k => arz.f k awake16.l 2) [] := by
 have h := daz 2 3 8 awake16.l rfl (by decide) (by decide) awake16.len (by decide)
 have e : (all6.filter fun q => passB 8 q 2 3 awake16.l) = [] := by
  unfold all6
  simp only [List.filter_cons, bWz awake16.q1, bWz awake16.v3, bWz awake16.q5, bWz awake16.q6, show passB 8 3 2 3 awake16.l = false from rfl, show passB 8 4 2 3 awake16.l = false from rfl, List.filter_nil]
  rfl
 rw [e] at h
 exact h
theorem awake16.t1 : Ev (fun k => arz.f k [[97], [97]] 1) [5, 6] := by
 have h := daz 1 1 1 [[97], [97]] rfl (by decide) (by decide) (by decide) (by decide)
 have e : (all6.filter fun q => passB 1 q 1 1 [[97], [97]]) = [5, 6] := by
  unfold all6
  simp only [List.filter_cons, show passB 1 1 1 1 [[97], [97]] = false from rfl, show passB 1 2 1 1 [[97], [97]] = false from rfl, show passB 1 3 1 1 [[97], [97]] = false from rfl, show passB 1 4 1 1 [[97], [97]] = false from rfl, show passB 1 5 1 1 [[97], [97]] = true by kernel_rfl, show passB 1 6 1 1 [[97], [97]] = true by kernel_rfl, List.filter_nil]
  rfl
 rw [e] at h
 exact h
theorem awake16.k3 : Ev (fun k => bdz.f k awake16.l 3) (1, 0) := Ev.bind awake16.t3 (Ev.congr (fun _ => rfl) (Ev.now _))
theorem awake16.k1 : Ev (fun k => bdz.f k [[97], [97]] 1) (0, 6) := Ev.bind awake16.t1 (Ev.congr (fun _ => rfl) (Ev.now _))
theorem awake16.enc : a3z.f 199 1 3 2 awake16.b = some (awake16.l, 0) := by kernel_rfl
theorem C_numsF {k : IntKind} {w : World} {g : Nat} {t : TypeId} {xs : List Int} {fr : Nat × Nat} (h : w.heap[g]? = some (.cells (nums k xs).toArray t fr)) (hl : xs.length ≤ 9223372036854775807) : Kd.C (Kd.int k) w (some ⟨g, 0, none⟩) xs.length xs := by
 refine ⟨rfl, hl, fun _ => ⟨_, rfl, fun j p hp => ⟨[.int k p], rfl, rfl, fun i u hu => ?_⟩⟩⟩
 obtain ⟨hj, rfl⟩ := List.getElem?_eq_some_iff.1 hp
 cases i with
 | succ i => simp at hu
 | zero =>
  obtain rfl : Value.int k xs[j] = u := by simpa using hu
  have e : (⟨g, 0, none⟩ : Addr).add (j * (Kd.int k).sz + 0) = ⟨g, j, none⟩ := by
   show (⟨g, 0, none⟩ : Addr).add (j * 1 + 0) = _
   unfold Addr.add
   split <;> simp_all
  rw [e, cell_of_row w g j _ t fr h]
  simp [nums, hj]
def bfz.f (_ : Nat) : Option (Bool) := some true
set_option maxRecDepth 100000 in
set_option maxHeartbeats 4000000 in
theorem bfz.calls (k : Nat) (r : Bool) (w : World) (h : bfz.f k = some r) :
 Calls Tryz.prog 35 #[] w fun e w' => e = .returned (.bool r) ∧ Below w.heap.size w w' := by
 obtain rfl : true = r := by injection h
 clear h
 have kc := fun (w : World) (C : Array Value) (n c : Nat) => Lib.run_convert_bytes_const (P := Tryz.prog) w 34 5 C n c Tryz.underlying34 Tryz.underlying5
 obtain ⟨k3, h3⟩ := Ev.rounds awake16.k3
 obtain ⟨k1, h1⟩ := Ev.rounds awake16.k1
 obtain ⟨k2, h2⟩ := Ev.rounds awake16.t2
 have HE := Aside0.mk (fun (W : World) (A : Option Addr) (hr : Kd.C (Kd.int .u8) W A awake16.b.length awake16.b) => a3z.calls 199 1 3 2 A 24 awake16.b awake16.l 0 W hr (by decide) awake16.enc)
 have HP3 := Aside0.mk (fun (W : World) (A : Option Addr) (c : Nat) (hr : Kd.C (Kd.slice 5 (Kd.int .u8)) W A awake16.l.length awake16.l) (hc : 5 ≤ c) => bdz.calls k3 A c awake16.l 3 1 0 W hr hc h3)
 have HP1 := Aside0.mk (fun (W : World) (A : Option Addr) (hr : Kd.C (Kd.slice 5 (Kd.int .u8)) W A [[97], [97]].length [[97], [97]]) => bdz.calls k1 A 2 [[97], [97]] 1 0 6 W hr (by decide) h1)
 have HT2 := Aside0.mk (fun (W : World) (A : Option Addr) (c : Nat) (hr : Kd.C (Kd.slice 5 (Kd.int .u8)) W A awake16.l.length awake16.l) (hc : 5 ≤ c) => arz.calls k2 A c awake16.l 2 [] W hr hc h2)
 have hl5 : awake16.l.length = 5 := rfl
 rw [hl5] at HP3 HT2
 clear h1 h2 h3
 go_enter Tryz.func35, Tryz.ntmps35
 go_wp2_with fail
 refine (HE.out _ (some ⟨w.heap.size, 0, none⟩) (C_numsF (fr := (24, 25)) (heap_alloc_new _ _) (by decide))).mono ?_
 rintro e w1 ⟨v, rfl, q1, q2⟩
 have HB1 := Aside0.mk ((abz (Below.refl _ _) _).trans (q2.mono (by simp)) : Below w.heap.size w w1)
 obtain ⟨gg, c, rfl, -, -, -⟩ := Kd.N_form q1 (by decide)
 obtain ⟨-, hc, hC⟩ := Kd.bFz q1
 have HC := Aside0.mk hC
 have HCC := Aside0.mk hc
 rw [hl5] at HC HCC ⊢
 have HP := Aside0.mk (HP3.out w1 _ c HC.out HCC.out)
 clear q1 q2 hC hc HE HP3
 go_wp2_with fail
 refine HP.out.mono ?_
 rintro e w2 ⟨rfl, q2⟩
 have HB2 := Aside0.mk (HB1.out.trans (q2.mono HB1.out.size))
 have HC2 := Aside0.mk (Kd.axz HC.out q2)
 clear q2 HP HC HB1
 have kd : ∀ (W : World) (o : Obj) (C : Array Value) (n c : Nat), Sem.run Tryz.prog (convert 34 34 (.slice (some ⟨W.heap.size + 1, 0, none⟩) n c)) ((W.alloc o).alloc (.cells C 5)) = Result.ok (.slice (some ⟨W.heap.size + 1, 0, none⟩) n c) ((W.alloc o).alloc (.cells C 5 (C.size, C.size + 1))) := fun W o C n c => by
  have h := kc (W.alloc o) C n c
  rw [World.size_alloc] at h
  exact h
 go_wp2_with fail
 have s1 := World.size_alloc w2 (.cells #[.int .u8 97] 5 (1, 2))
 have s2 := World.size_alloc (w2.alloc (.cells #[.int .u8 97] 5 (1, 2))) (.cells #[.int .u8 97] 5 (1, 2))
 have hb1 := heap_alloc_new w2 (.cells #[.int .u8 97] 5 (1, 2))
 have hb2 := heap_alloc_new (w2.alloc (.cells #[.int .u8 97] 5 (1, 2))) (.cells #[.int .u8 97] 5 (1, 2))
 have hB3 := abz (abz (abz (Below.refl w2.heap.size w2) (.cells #[.int .u8 97] 5 (1, 2))) (.cells #[.int .u8 97] 5 (1, 2))) (.cells #[.slice (some ⟨w2.heap.size, 0, none⟩) 1 1, .slice (some ⟨w2.heap.size + 1, 0, none⟩) 1 1] 34)
 have hb3 := heap_alloc_new ((w2.alloc (.cells #[.int .u8 97] 5 (1, 2))).alloc (.cells #[.int .u8 97] 5 (1, 2))) (.cells #[.slice (some ⟨w2.heap.size, 0, none⟩) 1 1, .slice (some ⟨w2.heap.size + 1, 0, none⟩) 1 1] 34)
 rw [s1] at hb2 s2
 have hc1 := agz (agz hb1 (abz (Below.refl _ _) (.cells #[.int .u8 97] 5 (1, 2)))) (abz (Below.refl _ _) (.cells #[.slice (some ⟨w2.heap.size, 0, none⟩) 1 1, .slice (some ⟨w2.heap.size + 1, 0, none⟩) 1 1] 34))
 have hc2 := agz hb2 (abz (Below.refl _ _) (.cells #[.slice (some ⟨w2.heap.size, 0, none⟩) 1 1, .slice (some ⟨w2.heap.size + 1, 0, none⟩) 1 1] 34))
 rw [s2] at hb3
 have HQ := Aside0.mk (HP1.out _ _ (C_twoB hb3 (by decide) (by decide) (C_numsF (xs := [97]) (fr := (1, 2)) hc1 (by decide)) (C_numsF (xs := [97]) (fr := (1, 2)) hc2 (by decide))))
 have HB3 := Aside0.mk (HB2.out.trans (hB3.mono HB2.out.size))
 have HC3 := Aside0.mk (Kd.axz HC2.out hB3)
 clear hb1 hb2 hb3 hc1 hc2 hB3 HP1 HC2 HB2
 refine HQ.out.mono ?_
 rintro e w3 ⟨rfl, q3⟩
 have HB4 := Aside0.mk (HB3.out.trans (q3.mono HB3.out.size))
 have HC4 := Aside0.mk (Kd.axz HC3.out q3)
 have HT := Aside0.mk (HT2.out w3 _ c HC4.out HCC.out)
 clear q3 HQ HB3 HC3 HT2
 go_wp2_with fail
 refine HT.out.mono ?_
 rintro e w4 ⟨v, rfl, q4, q5⟩
 obtain ⟨A4, c4, rfl, -, -⟩ := Kd.bRz q4
 have HB5 := Aside0.mk (HB4.out.trans (q5.mono HB4.out.size))
 clear q4 q5
 go_wp2
 go_ret
 exact ⟨rfl, HB5.out⟩
def aNz.f (k : Nat) (a0 : Int) (a1 : Int) (l2 : List Int) : Option (Bool) := (bfz.f k).bind fun t228 => (if (l2.length : Int) > 300 then (some t228) else ((a3z.f k 5 (wrap64 (1 + (Int.tmod (wrap64 (a0)) 8))) (wrap64 (1 + (Int.tmod (wrap64 (a1)) 4))) l2).bind fun bt231 => ((a3z.f k 6 (wrap64 (1 + (Int.tmod (wrap64 (a0)) 8))) (wrap64 (1 + (Int.tmod (wrap64 (a1)) 4))) l2).bind fun bt235 => ((arz.f k bt231.1 (wrap64 (1 + (Int.tmod (wrap64 (a0)) 8)))).bind fun t239 => ((arz.f k bt235.1 (wrap64 (1 + (Int.tmod (wrap64 (a0)) 8)))).bind fun t242 => ((bdz.f k bt231.1 (wrap64 (1 + (Int.tmod (wrap64 (a0)) 8)))).bind fun bt245 => (if t228 = true then (if bt231.2 = 0 then (if bt235.2 = 0 then ((aiz.f k t239 5).bind fun t247 => (if t247 = true then ((aiz.f k t239 6).bind fun t248 => (if t248 = true then ((aiz.f k t242 5).bind fun t249 => (if t249 = true then ((aiz.f k t242 6).bind fun t250 => (if t250 = true then (some (bt245.2 == 6)) else (some false))) else (some false))) else (some false))) else (some false))) else (some false)) else (some false)) else (some false))))))))
set_option maxHeartbeats 8000000 in
set_option maxRecDepth 100000 in
theorem aNz.calls (k : Nat) (a0 : Int) (a1 : Int) (A2 : Option Addr) (c2 : Nat) (l2 : List Int) (r : Bool) (w : World) (hr_ : Aside0 (r = true)) (hr2 : Kd.C (Kd.int .u8) w A2 l2.length l2) (hc2 : l2.length ≤ c2) (h : aNz.f k a0 a1 l2 = some r) :
  Calls Tryz.prog 11 #[.int .u8 a0, .int .u8 a1, .slice A2 l2.length c2] w fun e w' => e = .returned (.bool r) ∧ Below w.heap.size w w' := by
 have hu23 := Tryz.underlying23
 have HR2 := Aside0.mk hr2
 have HC2 := Aside0.mk hc2
 clear hr2 hc2
 have HB := Aside0.mk (Below.refl w.heap.size w)
 have H := h
 clear h
 unfold aNz.f at H
 obtain ⟨t228, A4, H⟩ := ob_ H
 (try dsimp only at H)
 by_cases c5 : (l2.length : Int) > 300
 ·rw [if_pos c5] at H
  have c5b0 : decide (300 < (l2.length : Int)) = true := decide_eq_true c5
  have c5b1 : decide (300 < l2.length) = true := decide_eq_true (by omega)
  clear c5
  obtain rfl := Option.some.inj H
  go_enter Tryz.func11, Tryz.ntmps11
  go_wp2_with (first | ((with_reducible refine adz (f := 35) rfl ?_); refine gl_ (some 18) Tryz.func35 #[] ?_; (with_reducible refine (bfz.calls k  t228 _ A4.out).mono ?_); rintro e w6 ⟨rfl, hb⟩; refine ⟨_, rfl, ?_⟩; have n0_ := hs_ HB hb; clear HB; have HB := n0_; clear n0_; (try clear hb)))
  go_ret
  exact ⟨er_, bl_⟩
 ·rw [if_neg c5] at H
  have c5b0 : decide (300 < (l2.length : Int)) = false := decide_eq_false c5
  have c5b1 : decide (300 < l2.length) = false := decide_eq_false (by omega)
  clear c5
  obtain ⟨⟨t231, t234⟩, A7, H⟩ := ob_ H
  (try dsimp only at H)
  obtain ⟨⟨t235, t238⟩, A8, H⟩ := ob_ H
  (try dsimp only at H)
  obtain ⟨t239, A9, H⟩ := ob_ H
  (try dsimp only at H)
  obtain ⟨t242, A10, H⟩ := ob_ H
  (try dsimp only at H)
  obtain ⟨⟨t245, t246⟩, A11, H⟩ := ob_ H
  (try dsimp only at H)
  by_cases c12 : t228 = true
  rotate_left
  ·replace c12 := Bool.eq_false_iff.mpr c12
   subst c12
   rw [if_neg (show ¬ (false = true) by decide)] at H
   exact absurd ((Option.some.inj H).trans hr_.out) (by simp)
  subst c12
  rw [if_pos rfl] at H
  by_cases c13 : t234 = 0
  rotate_left
  ·rw [if_neg c13] at H
   have c13b0 : (t234 == 0) = false := beq_eq_false_iff_ne.mpr c13
   have c13b1 : (t234 != 0) = true := bne_iff_ne.mpr c13
   exact absurd ((Option.some.inj H).trans hr_.out) (by simp)
  rw [if_pos c13] at H
  have c13b0 : (t234 == 0) = true := beq_iff_eq.mpr c13
  have c13b1 : (t234 != 0) = false := bne_eq_false_iff_eq.mpr c13
  clear c13
  by_cases c14 : t238 = 0
  rotate_left
  ·rw [if_neg c14] at H
   have c14b0 : (t238 == 0) = false := beq_eq_false_iff_ne.mpr c14
   have c14b1 : (t238 != 0) = true := bne_iff_ne.mpr c14
   exact absurd ((Option.some.inj H).trans hr_.out) (by simp)
  rw [if_pos c14] at H
  have c14b0 : (t238 == 0) = true := beq_iff_eq.mpr c14
  have c14b1 : (t238 != 0) = false := bne_eq_false_iff_eq.mpr c14
  clear c14
  obtain ⟨t247, A15, H⟩ := ob_ H
  (try dsimp only at H)
  by_cases c16 : t247 = true
  rotate_left
  ·replace c16 := Bool.eq_false_iff.mpr c16
   subst c16
   rw [if_neg (show ¬ (false = true) by decide)] at H
   exact absurd ((Option.some.inj H).trans hr_.out) (by simp)
  subst c16
  rw [if_pos rfl] at H
  obtain ⟨t248, A17, H⟩ := ob_ H
  (try dsimp only at H)
  by_cases c18 : t248 = true
  rotate_left
  ·replace c18 := Bool.eq_false_iff.mpr c18
   subst c18
   rw [if_neg (show ¬ (false = true) by decide)] at H
   exact absurd ((Option.some.inj H).trans hr_.out) (by simp)
  subst c18
  rw [if_pos rfl] at H
  obtain ⟨t249, A19, H⟩ := ob_ H
  (try dsimp only at H)
  by_cases c20 : t249 = true
  rotate_left
  ·replace c20 := Bool.eq_false_iff.mpr c20
   subst c20
   rw [if_neg (show ¬ (false = true) by decide)] at H
   exact absurd ((Option.some.inj H).trans hr_.out) (by simp)
  subst c20
  rw [if_pos rfl] at H
  obtain ⟨t250, A21, H⟩ := ob_ H
  (try dsimp only at H)
  by_cases c22 : t250 = true
  ·subst c22
   rw [if_pos rfl] at H
   obtain rfl := Option.some.inj H
   go_enter Tryz.func11, Tryz.ntmps11
   go_wp2_with (first | ((with_reducible refine adz (f := 35) rfl ?_); refine gl_ (some 18) Tryz.func35 #[] ?_; (with_reducible refine (bfz.calls k  true _ A4.out).mono ?_); rintro e w23 ⟨rfl, hb⟩; refine ⟨_, rfl, ?_⟩; have n0_ := hs_ HB hb; clear HB; have HB := n0_; clear n0_; (try clear hb)) | ((with_reducible refine aAz (N := 8) rfl ?_); refine bx_ 8 #[.int .i64 0, .int .i64 0, .int .i64 0] 23 ?_; intro gb229 hg w24 hbox hb; have n_ := And.intro (hs_ HB hb) (And.intro (Aside0.mk (hbox)) (And.intro (ag_ HB gb229) (ag_ HB gb229))); clear HB; obtain ⟨HB, BK229, GW229, GE229⟩ := n_; clear hb hbox hg; obtain ⟨hcz25_0, hfz25_0, hcz25_1, hfz25_1, hcz25_2, hfz25_2⟩ := bc3_ BK229.out) | ((with_reducible refine aAz (N := 9) rfl ?_); refine bx_ 9 #[.int .i64 0, .int .i64 0, .int .i64 0] 23 ?_; intro gb230 hg w26 hbox hb; have n_ := And.intro (Aside0.mk (agz (g := gb229) (o := .cells #[.int .i64 5, .int .i64 (wrap64 (1 + (Int.tmod (wrap64 (a0)) 8))), .int .i64 (wrap64 (1 + (Int.tmod (wrap64 (a1)) 4)))] 23 (0, 0)) (by (with_reducible repeat (first | refine afz ?_ _ | refine ahz ?_ | refine acz ?_ _)); refine aOz (cs := #[.int .i64 5, .int .i64 (wrap64 (1 + (Int.tmod (wrap64 (a0)) 8))), .int .i64 0]) ?_ 2 _ rfl; (with_reducible repeat (first | refine afz ?_ _ | refine ahz ?_ | refine acz ?_ _)); refine aOz (cs := #[.int .i64 5, .int .i64 0, .int .i64 0]) ?_ 1 _ rfl; (with_reducible repeat (first | refine afz ?_ _ | refine ahz ?_ | refine acz ?_ _)); refine aOz (cs := #[.int .i64 0, .int .i64 0, .int .i64 0]) ?_ 0 _ rfl; (with_reducible repeat (first | refine afz ?_ _ | refine ahz ?_ | refine acz ?_ _)); exact BK229.out) hb)) (And.intro (hs_ HB hb) (And.intro (Aside0.mk (hbox)) (And.intro (ag_ HB gb230) (And.intro (ag_ HB gb230) (And.intro (Aside0.mk ((by rw [hg]; exact Nat.ne_of_lt (aqz (g := gb229) (o := .cells #[.int .i64 5, .int .i64 (wrap64 (1 + (Int.tmod (wrap64 (a0)) 8))), .int .i64 (wrap64 (1 + (Int.tmod (wrap64 (a1)) 4)))] 23 (0, 0)) (by (with_reducible repeat (first | refine afz ?_ _ | refine ahz ?_ | refine acz ?_ _)); refine aOz (cs := #[.int .i64 5, .int .i64 (wrap64 (1 + (Int.tmod (wrap64 (a0)) 8))), .int .i64 0]) ?_ 2 _ rfl; (with_reducible repeat (first | refine afz ?_ _ | refine ahz ?_ | refine acz ?_ _)); refine aOz (cs := #[.int .i64 5, .int .i64 0, .int .i64 0]) ?_ 1 _ rfl; (with_reducible repeat (first | refine afz ?_ _ | refine ahz ?_ | refine acz ?_ _)); refine aOz (cs := #[.int .i64 0, .int .i64 0, .int .i64 0]) ?_ 0 _ rfl; (with_reducible repeat (first | refine afz ?_ _ | refine ahz ?_ | refine acz ?_ _)); exact BK229.out)) : gb229 ≠ gb230))) (Aside0.mk ((by rw [hg]; exact Nat.ne_of_gt (aqz (g := gb229) (o := .cells #[.int .i64 5, .int .i64 (wrap64 (1 + (Int.tmod (wrap64 (a0)) 8))), .int .i64 (wrap64 (1 + (Int.tmod (wrap64 (a1)) 4)))] 23 (0, 0)) (by (with_reducible repeat (first | refine afz ?_ _ | refine ahz ?_ | refine acz ?_ _)); refine aOz (cs := #[.int .i64 5, .int .i64 (wrap64 (1 + (Int.tmod (wrap64 (a0)) 8))), .int .i64 0]) ?_ 2 _ rfl; (with_reducible repeat (first | refine afz ?_ _ | refine ahz ?_ | refine acz ?_ _)); refine aOz (cs := #[.int .i64 5, .int .i64 0, .int .i64 0]) ?_ 1 _ rfl; (with_reducible repeat (first | refine afz ?_ _ | refine ahz ?_ | refine acz ?_ _)); refine aOz (cs := #[.int .i64 0, .int .i64 0, .int .i64 0]) ?_ 0 _ rfl; (with_reducible repeat (first | refine afz ?_ _ | refine ahz ?_ | refine acz ?_ _)); exact BK229.out)) : gb230 ≠ gb229)))))))); clear BK229 HB; obtain ⟨BK229, HB, BK230, GW230, GE230, NB229_230, NB230_229⟩ := n_; clear hb hbox hg; have hnb27 := NB230_229.out; have hnc27 := NB229_230.out; obtain ⟨hcz28_0, hfz28_0, hcz28_1, hfz28_1, hcz28_2, hfz28_2⟩ := bc3_ BK230.out; obtain ⟨hcz29_0, hfz29_0, hcz29_1, hfz29_1, hcz29_2, hfz29_2⟩ := bc3_ BK229.out) | ((with_reducible refine adz (f := 24) rfl ?_); refine gl_ (some 37) Tryz.func24 #[.agg #[.int .i64 5, .int .i64 (wrap64 (1 + (Int.tmod (wrap64 (a0)) 8))), .int .i64 (wrap64 (1 + (Int.tmod (wrap64 (a1)) 4)))], .slice A2 l2.length c2] ?_; (with_reducible refine (a3z.calls k 5 (wrap64 (1 + (Int.tmod (wrap64 (a0)) 8))) (wrap64 (1 + (Int.tmod (wrap64 (a1)) 4))) _ _ l2 t231 t234 _ (Kd.axz HR2.out bl_) (HC2.out) A7.out).mono ?_); rintro e w30 ⟨v232, rfl, ho0, hb⟩; refine ⟨_, rfl, ?_⟩; have n_ := And.intro (Aside0.mk (Kd.N_lower (Kd.caz (ok' := fun k_ => k_ ≠ gb229 ∧ k_ ≠ gb230) ho0 (fun k_ hk_ => ⟨(Kd.freshB (g := gb229) (o := .cells #[.int .i64 5, .int .i64 (wrap64 (1 + (Int.tmod (wrap64 (a0)) 8))), .int .i64 (wrap64 (1 + (Int.tmod (wrap64 (a1)) 4)))] 23 (0, 0)) (by (with_reducible repeat (first | refine afz ?_ _ | refine ahz ?_ | refine acz ?_ _)); refine asz ?_ NB229_230.out _; (with_reducible repeat (first | refine afz ?_ _ | refine ahz ?_ | refine acz ?_ _)); refine asz ?_ NB229_230.out _; (with_reducible repeat (first | refine afz ?_ _ | refine ahz ?_ | refine acz ?_ _)); refine asz ?_ NB229_230.out _; (with_reducible repeat (first | refine afz ?_ _ | refine ahz ?_ | refine acz ?_ _)); refine asz ?_ NB229_230.out _; (with_reducible repeat (first | refine afz ?_ _ | refine ahz ?_ | refine acz ?_ _)); exact BK229.out) k_ hk_), (Kd.freshB (g := gb230) (o := .cells #[.int .i64 6, .int .i64 (wrap64 (1 + (Int.tmod (wrap64 (a0)) 8))), .int .i64 (wrap64 (1 + (Int.tmod (wrap64 (a1)) 4)))] 23 (0, 0)) (by (with_reducible repeat (first | refine afz ?_ _ | refine ahz ?_ | refine acz ?_ _)); refine aOz (cs := #[.int .i64 5, .int .i64 (wrap64 (1 + (Int.tmod (wrap64 (a0)) 8))), .int .i64 (wrap64 (1 + (Int.tmod (wrap64 (a1)) 4)))]) ?_ 0 _ rfl; (with_reducible repeat (first | refine afz ?_ _ | refine ahz ?_ | refine acz ?_ _)); refine aOz (cs := #[.int .i64 5, .int .i64 (wrap64 (1 + (Int.tmod (wrap64 (a0)) 8))), .int .i64 0]) ?_ 2 _ rfl; (with_reducible repeat (first | refine afz ?_ _ | refine ahz ?_ | refine acz ?_ _)); refine aOz (cs := #[.int .i64 5, .int .i64 0, .int .i64 0]) ?_ 1 _ rfl; (with_reducible repeat (first | refine afz ?_ _ | refine ahz ?_ | refine acz ?_ _)); refine aOz (cs := #[.int .i64 0, .int .i64 0, .int .i64 0]) ?_ 0 _ rfl; (with_reducible repeat (first | refine afz ?_ _ | refine ahz ?_ | refine acz ?_ _)); exact BK230.out) k_ hk_)⟩)) (aPz bl_))) (And.intro (Aside0.mk (agz (g := gb229) (o := .cells #[.int .i64 5, .int .i64 (wrap64 (1 + (Int.tmod (wrap64 (a0)) 8))), .int .i64 (wrap64 (1 + (Int.tmod (wrap64 (a1)) 4)))] 23 (0, 0)) (by (with_reducible repeat (first | refine afz ?_ _ | refine ahz ?_ | refine acz ?_ _)); refine asz ?_ NB229_230.out _; (with_reducible repeat (first | refine afz ?_ _ | refine ahz ?_ | refine acz ?_ _)); refine asz ?_ NB229_230.out _; (with_reducible repeat (first | refine afz ?_ _ | refine ahz ?_ | refine acz ?_ _)); refine asz ?_ NB229_230.out _; (with_reducible repeat (first | refine afz ?_ _ | refine ahz ?_ | refine acz ?_ _)); refine asz ?_ NB229_230.out _; (with_reducible repeat (first | refine afz ?_ _ | refine ahz ?_ | refine acz ?_ _)); exact BK229.out) hb)) (And.intro (Aside0.mk (agz (g := gb230) (o := .cells #[.int .i64 6, .int .i64 (wrap64 (1 + (Int.tmod (wrap64 (a0)) 8))), .int .i64 (wrap64 (1 + (Int.tmod (wrap64 (a1)) 4)))] 23 (0, 0)) (by (with_reducible repeat (first | refine afz ?_ _ | refine ahz ?_ | refine acz ?_ _)); refine aOz (cs := #[.int .i64 5, .int .i64 (wrap64 (1 + (Int.tmod (wrap64 (a0)) 8))), .int .i64 (wrap64 (1 + (Int.tmod (wrap64 (a1)) 4)))]) ?_ 0 _ rfl; (with_reducible repeat (first | refine afz ?_ _ | refine ahz ?_ | refine acz ?_ _)); refine aOz (cs := #[.int .i64 5, .int .i64 (wrap64 (1 + (Int.tmod (wrap64 (a0)) 8))), .int .i64 0]) ?_ 2 _ rfl; (with_reducible repeat (first | refine afz ?_ _ | refine ahz ?_ | refine acz ?_ _)); refine aOz (cs := #[.int .i64 5, .int .i64 0, .int .i64 0]) ?_ 1 _ rfl; (with_reducible repeat (first | refine afz ?_ _ | refine ahz ?_ | refine acz ?_ _)); refine aOz (cs := #[.int .i64 0, .int .i64 0, .int .i64 0]) ?_ 0 _ rfl; (with_reducible repeat (first | refine afz ?_ _ | refine ahz ?_ | refine acz ?_ _)); exact BK230.out) hb)) (hs_ HB hb))); clear BK229 BK230 HB; obtain ⟨HO233, BK229, BK230, HB⟩ := n_; clear hb ho0; obtain ⟨hcz31_0, hfz31_0, hcz31_1, hfz31_1, hcz31_2, hfz31_2⟩ := bc3_ BK230.out) | ((with_reducible refine adz (f := 24) rfl ?_); refine gl_ (some 43) Tryz.func24 #[.agg #[.int .i64 6, .int .i64 (wrap64 (1 + (Int.tmod (wrap64 (a0)) 8))), .int .i64 (wrap64 (1 + (Int.tmod (wrap64 (a1)) 4)))], .slice A2 l2.length c2] ?_; (with_reducible refine (a3z.calls k 6 (wrap64 (1 + (Int.tmod (wrap64 (a0)) 8))) (wrap64 (1 + (Int.tmod (wrap64 (a1)) 4))) _ _ l2 t235 t238 _ (xd_ (Kd.axz HR2.out HB.out)) (HC2.out) A8.out).mono ?_); rintro e w32 ⟨v236, rfl, ho0, hb⟩; refine ⟨_, rfl, ?_⟩; have n_ := And.intro (Aside0.mk (Kd.ciz (xd_ HO233.out) (Kd.N_base ho0) hb)) (And.intro (Aside0.mk (Kd.N_lower (Kd.caz (ok' := fun k_ => some k_ ≠ (v232 : Value).ownBlock ∧ k_ ≠ gb229 ∧ k_ ≠ gb230) ho0 (fun k_ hk_ => ⟨(Kd.fresh' (Kd.N_lt (xd_ HO233.out)) k_ hk_), (Kd.freshB (g := gb229) (o := .cells #[.int .i64 5, .int .i64 (wrap64 (1 + (Int.tmod (wrap64 (a0)) 8))), .int .i64 (wrap64 (1 + (Int.tmod (wrap64 (a1)) 4)))] 23 (0, 0)) bk_ k_ hk_), (Kd.freshB (g := gb230) (o := .cells #[.int .i64 6, .int .i64 (wrap64 (1 + (Int.tmod (wrap64 (a0)) 8))), .int .i64 (wrap64 (1 + (Int.tmod (wrap64 (a1)) 4)))] 23 (0, 0)) bk_ k_ hk_)⟩)) (aPz bl_))) (And.intro (bb_ BK229 hb) (And.intro (bb_ BK230 hb) (hs_ HB hb)))); clear HO233 BK229 BK230 HB; obtain ⟨HO233, HO237, BK229, BK230, HB⟩ := n_; clear hb ho0; obtain ⟨hcz33_0, hfz33_0, hcz33_1, hfz33_1, hcz33_2, hfz33_2⟩ := bc3_ BK229.out; obtain ⟨Ao34, co34, eo34⟩ := Kd.N_slice HO233.out; subst eo34) | ((with_reducible refine adz (f := 39) rfl ?_); refine gl_ (some 49) Tryz.func39 #[.slice Ao34 t231.length co34, .int .i64 (wrap64 (1 + (Int.tmod (wrap64 (a0)) 8)))] ?_; (with_reducible refine (arz.calls k _ _ t231 (wrap64 (1 + (Int.tmod (wrap64 (a0)) 8))) t239 _ (xd_ (Kd.bFz HO233.out).2.2) ((Kd.bFz HO233.out).2.1) A9.out).mono ?_); rintro e w35 ⟨v240, rfl, ho0, hb⟩; refine ⟨_, rfl, ?_⟩; have n_ := And.intro (Aside0.mk (Kd.ciz (xd_ HO233.out) (Kd.bBz ho0) hb)) (And.intro (Aside0.mk (Kd.ciz (xd_ HO237.out) (Kd.bBz ho0) hb)) (And.intro (Aside0.mk (Kd.a8z ho0 (aPz bl_))) (And.intro (bb_ BK229 hb) (And.intro (bb_ BK230 hb) (hs_ HB hb))))); clear HO233 HO237 BK229 BK230 HB; obtain ⟨HO233, HO237, HO241, BK229, BK230, HB⟩ := n_; clear hb ho0; obtain ⟨hcz36_0, hfz36_0, hcz36_1, hfz36_1, hcz36_2, hfz36_2⟩ := bc3_ BK229.out; obtain ⟨Ao37, co37, eo37⟩ := Kd.N_slice HO237.out; subst eo37) | ((with_reducible refine adz (f := 39) rfl ?_); refine gl_ (some 53) Tryz.func39 #[.slice Ao37 t235.length co37, .int .i64 (wrap64 (1 + (Int.tmod (wrap64 (a0)) 8)))] ?_; (with_reducible refine (arz.calls k _ _ t235 (wrap64 (1 + (Int.tmod (wrap64 (a0)) 8))) t242 _ (xd_ (Kd.bFz HO237.out).2.2) ((Kd.bFz HO237.out).2.1) A10.out).mono ?_); rintro e w38 ⟨v243, rfl, ho0, hb⟩; refine ⟨_, rfl, ?_⟩; have n_ := And.intro (Aside0.mk (Kd.ciz (xd_ HO233.out) (Kd.bBz ho0) hb)) (And.intro (Aside0.mk (Kd.ciz (xd_ HO237.out) (Kd.bBz ho0) hb)) (And.intro (Aside0.mk (Kd.R_elder' (xd_ HO241.out) (Kd.bBz ho0) hb)) (And.intro (Aside0.mk (Kd.a8z (Kd.R_new' ho0 (Kd.R_lt (xd_ HO241.out))) (aPz bl_))) (And.intro (bb_ BK229 hb) (And.intro (bb_ BK230 hb) (hs_ HB hb)))))); clear HO233 HO237 HO241 BK229 BK230 HB; obtain ⟨HO233, HO237, HO241, HO244, BK229, BK230, HB⟩ := n_; clear hb ho0; obtain ⟨hcz39_0, hfz39_0, hcz39_1, hfz39_1, hcz39_2, hfz39_2⟩ := bc3_ BK229.out) | ((with_reducible refine adz (f := 36) rfl ?_); refine gl_ (some 58) Tryz.func36 #[.slice Ao34 t231.length co34, .int .i64 (wrap64 (1 + (Int.tmod (wrap64 (a0)) 8)))] ?_; (with_reducible refine (bdz.calls k _ _ t231 (wrap64 (1 + (Int.tmod (wrap64 (a0)) 8))) t245 t246 _ (xd_ (Kd.bFz HO233.out).2.2) ((Kd.bFz HO233.out).2.1) A11.out).mono ?_); rintro e w40 ⟨rfl, hb⟩; refine ⟨_, rfl, ?_⟩; have n_ := And.intro (Aside0.mk (Kd.cLz (xd_ HO233.out) hb)) (And.intro (Aside0.mk (Kd.cLz (xd_ HO237.out) hb)) (And.intro (Aside0.mk (Kd.b0z (xd_ HO241.out) hb)) (And.intro (Aside0.mk (Kd.b0z (xd_ HO244.out) hb)) (And.intro (bb_ BK229 hb) (And.intro (bb_ BK230 hb) (hs_ HB hb)))))); clear HO233 HO237 HO241 HO244 BK229 BK230 HB; obtain ⟨HO233, HO237, HO241, HO244, BK229, BK230, HB⟩ := n_; (try clear hb); obtain ⟨Ao41, co41, eo41⟩ := Kd.a0z HO241.out; subst eo41) | (go_at_call 42; (with_reducible refine (aiz.calls k _ _ t239 5 true _ (xd_ (Kd.aMz HO241.out).2.2) ((Kd.aMz HO241.out).2.1) A15.out).mono ?_); rintro e w' ⟨rfl, ⟨nd, rfl⟩⟩) | (go_at_call 42; (with_reducible refine (aiz.calls k _ _ t239 6 true _ (xd_ (Kd.aMz HO241.out).2.2) ((Kd.aMz HO241.out).2.1) A17.out).mono ?_); rintro e w' ⟨rfl, ⟨nd, rfl⟩⟩; obtain ⟨Ao42, co42, eo42⟩ := Kd.a0z HO244.out; subst eo42) | (go_at_call 42; (with_reducible refine (aiz.calls k _ _ t242 5 true _ (xd_ (Kd.aMz HO244.out).2.2) ((Kd.aMz HO244.out).2.1) A19.out).mono ?_); rintro e w' ⟨rfl, ⟨nd, rfl⟩⟩) | (go_at_call 42; (with_reducible refine (aiz.calls k _ _ t242 6 true _ (xd_ (Kd.aMz HO244.out).2.2) ((Kd.aMz HO244.out).2.1) A21.out).mono ?_); rintro e w' ⟨rfl, ⟨nd, rfl⟩⟩))
   go_ret
   exact ⟨er_, bl_⟩
  ·replace c22 := Bool.eq_false_iff.mpr c22
   subst c22
   rw [if_neg (show ¬ (false = true) by decide)] at H
   exact absurd ((Option.some.inj H).trans hr_.out) (by simp)
def aNz.Pure : Prop := ∀ (a0 : Int) (a1 : Int) (l2 : List Int), (Lit.int .u8 a0).wf = true → (Lit.int .u8 a1).wf = true → l2.length ≤ maxLen → l2.length * 1 ≤ 140737488351232 → (∀ x ∈ l2, (Lit.int .u8 x).wf = true) → ∃ k, aNz.f k a0 a1 l2 = some true
theorem u8_wf {x : Int} (h : (Lit.int .u8 x).wf = true) : 0 ≤ x ∧ x ≤ 255 := by
 simp [Lit.wf, IntKind.has] at h
 have h1 : IntKind.min .u8 = 0 := rfl
 have h2 : IntKind.max .u8 = 255 := rfl
 omega
theorem enc_of (p : Int) (K M : Nat) (b : List Int) (hmay : aez.f p (K : Int) (M : Int) = some true) (hn : b.length ≤ 4096) (data : List (List Int)) (q1 : data.length = K) (q2 : ∀ r, r ∈ data → r.length = sizeN p K b.length) (q4 : Ev (fun k => azz.f k p (K : Int) (M : Int) b) (data, 0)) :
  Ev (fun k => a3z.f k p (K : Int) (M : Int) b) (data ++ parV (sizeN p K b.length) p K M data, 0) := by
 obtain ⟨p1, p2, k1, k2, m1, m2⟩ := bGz hmay
 have h2 := par_ev p K M (sizeN p K b.length) data hmay q1 (by have := dpz p K b.length (by omega) (by omega) hn; omega) (sizeN_even p K b.length) q2
 have hl := parV_len (sizeN p K b.length) p K M data hmay
 refine Ev.bind q4 ?_
 refine Ev.congr (f := fun k => (alz.f k p (K : Int) (M : Int) data).bind fun t => if data.length + t.1.length < 5864062014805 then some (data ++ t.1, t.2) else none) (fun k => by dsimp only; rw [if_pos rfl]) ?_
 refine Ev.bind h2 ?_
 refine Ev.congr (fun k => ?_) (Ev.now _)
 dsimp only
 rw [if_pos (by omega)]
end Go.Proofs.YtpdakdcmahlghaaGreat.XCo
end
