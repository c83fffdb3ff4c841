-- Joined by this work's own program (wip/tools/bundle.py) out of its texts: what this claim uses of them. Not trusted: Lean checks it.
import Derived.Test.YtpdakdcmahlghaaGreatBReconAny19
section
namespace Go.Proofs.YtpdakdcmahlghaaGreat.XCo
open Go.RowKit Go.Proofs.YtpdakdcmahlghaaGreatW.PrintWords Go.Proofs.YtpdakdcmahlghaaGreatW.PrintLast Go.Proofs.YtpdakdcmahlghaaGreatW.PrintMore
attribute [local go_sem] aAz aBz aIz aJz atz auz aCz aDz
set_option linter.unusedVariables false
set_option linter.unusedSimpArgs false
theorem i16_1 : ginv 16 1 = 1 := bXz (.inr rfl) (a := 1) (v := 1) (by decide) (by decide) (by decide) (by decide +kernel)
theorem i16_2 : ginv 16 2 = 34821 := bXz (.inr rfl) (a := 2) (v := 34821) (by decide) (by decide) (by decide) (by decide +kernel)
theorem i16_3 : ginv 16 3 = 61446 := bXz (.inr rfl) (a := 3) (v := 61446) (by decide) (by decide) (by decide) (by decide +kernel)
theorem i16_4 : ginv 16 4 = 52231 := bXz (.inr rfl) (a := 4) (v := 52231) (by decide) (by decide) (by decide) (by decide +kernel)
theorem i16_5 : ginv 16 5 = 20482 := bXz (.inr rfl) (a := 5) (v := 20482) (by decide) (by decide) (by decide) (by decide +kernel)
theorem i16_6 : ginv 16 6 = 30723 := bXz (.inr rfl) (a := 6) (v := 30723) (by decide) (by decide) (by decide) (by decide +kernel)
theorem i16_7 : ginv 16 7 = 27502 := bXz (.inr rfl) (a := 7) (v := 27502) (by decide) (by decide) (by decide) (by decide +kernel)
theorem i16_8 : ginv 16 8 = 60934 := bXz (.inr rfl) (a := 8) (v := 60934) (by decide) (by decide) (by decide) (by decide +kernel)
theorem i16_9 : ginv 16 9 = 9946 := bXz (.inr rfl) (a := 9) (v := 9946) (by decide) (by decide) (by decide) (by decide +kernel)
theorem i16_10 : ginv 16 10 = 10241 := bXz (.inr rfl) (a := 10) (v := 10241) (by decide) (by decide) (by decide) (by decide +kernel)
theorem i16_11 : ginv 16 11 = 60305 := bXz (.inr rfl) (a := 11) (v := 60305) (by decide) (by decide) (by decide) (by decide +kernel)
def gtab : Int → Int := fun x => if x = 1 then 1 else if x = 2 then 34821 else if x = 3 then 61446 else if x = 4 then 52231 else if x = 5 then 20482 else if x = 6 then 30723 else if x = 7 then 27502 else if x = 8 then 60934 else if x = 9 then 9946 else if x = 10 then 10241 else if x = 11 then 60305 else 0
theorem gtab_inv (x : Int) (h0 : 1 ≤ x) (h1 : x < 12) : ginv 16 x = gtab x := by
 have h : x = 1 ∨ x = 2 ∨ x = 3 ∨ x = 4 ∨ x = 5 ∨ x = 6 ∨ x = 7 ∨ x = 8 ∨ x = 9 ∨ x = 10 ∨ x = 11 := by omega
 rcases h with rfl | rfl | rfl | rfl | rfl | rfl | rfl | rfl | rfl | rfl | rfl
 ·exact i16_1
 ·exact i16_2
 ·exact i16_3
 ·exact i16_4
 ·exact i16_5
 ·exact i16_6
 ·exact i16_7
 ·exact i16_8
 ·exact i16_9
 ·exact i16_10
 ·exact i16_11
theorem xor_small : ∀ m : Nat, m < 5 → ∀ a : Nat, a < m → ∀ b : Nat, b < 8 → 1 ≤ Go.bits .xor .i64 ((0 + a : Nat) : Int) ((m + b : Nat) : Int) ∧ Go.bits .xor .i64 ((0 + a : Nat) : Int) ((m + b : Nat) : Int) < 12 := by decide +kernel
def tabM (k m : Nat) : List (List Int) := (runL 0 m).map fun a => (runL m k).map fun b => gtab (Go.bits .xor .i64 a b)
theorem par2_tab (k m : Nat) (hk : k < 9) (hm : m < 5) : parM 2 k m = tabM k m := by
 show cauM 16 (runL 0 m) (runL m k) = tabM k m
 unfold cauM tabM runL
 refine List.map_congr_left (fun a ha => List.map_congr_left (fun b hb => ?_))
 obtain ⟨i, hi, rfl⟩ := List.mem_map.1 ha
 obtain ⟨j, hj, rfl⟩ := List.mem_map.1 hb
 have := xor_small m hm i (by simpa using hi) j (by have := List.mem_range.1 hj; omega)
 exact gtab_inv _ this.1 this.2
def parL2 : List (List (List (List Nat))) := [[[[1]],[[34821],[61446]],[[61446],[34821],[1]],[[52231],[20482],[30723],[27502]]],[[[1,34821]],[[34821,61446],[61446,34821]],[[61446,52231],[34821,20482],[1,30723]],[[52231,20482],[20482,52231],[30723,27502],[27502,30723]]],[[[1,34821,61446]],[[34821,61446,52231],[61446,34821,20482]],[[61446,52231,20482],[34821,20482,52231],[1,30723,27502]],[[52231,20482,30723],[20482,52231,27502],[30723,27502,52231],[27502,30723,20482]]],[[[1,34821,61446,52231]],[[34821,61446,52231,20482],[61446,34821,20482,52231]],[[61446,52231,20482,30723],[34821,20482,52231,27502],[1,30723,27502,52231]],[[52231,20482,30723,27502],[20482,52231,27502,30723],[30723,27502,52231,20482],[27502,30723,20482,52231]]],[[[1,34821,61446,52231,20482]],[[34821,61446,52231,20482,30723],[61446,34821,20482,52231,27502]],[[61446,52231,20482,30723,27502],[34821,20482,52231,27502,30723],[1,30723,27502,52231,20482]],[[52231,20482,30723,27502,60934],[20482,52231,27502,30723,9946],[30723,27502,52231,20482,10241],[27502,30723,20482,52231,60305]]],[[[1,34821,61446,52231,20482,30723]],[[34821,61446,52231,20482,30723,27502],[61446,34821,20482,52231,27502,30723]],[[61446,52231,20482,30723,27502,60934],[34821,20482,52231,27502,30723,9946],[1,30723,27502,52231,20482,10241]],[[52231,20482,30723,27502,60934,9946],[20482,52231,27502,30723,9946,60934],[30723,27502,52231,20482,10241,60305],[27502,30723,20482,52231,60305,10241]]],[[[1,34821,61446,52231,20482,30723,27502]],[[34821,61446,52231,20482,30723,27502,60934],[61446,34821,20482,52231,27502,30723,9946]],[[61446,52231,20482,30723,27502,60934,9946],[34821,20482,52231,27502,30723,9946,60934],[1,30723,27502,52231,20482,10241,60305]],[[52231,20482,30723,27502,60934,9946,10241],[20482,52231,27502,30723,9946,60934,60305],[30723,27502,52231,20482,10241,60305,60934],[27502,30723,20482,52231,60305,10241,9946]]],[[[1,34821,61446,52231,20482,30723,27502,60934]],[[34821,61446,52231,20482,30723,27502,60934,9946],[61446,34821,20482,52231,27502,30723,9946,60934]],[[61446,52231,20482,30723,27502,60934,9946,10241],[34821,20482,52231,27502,30723,9946,60934,60305],[1,30723,27502,52231,20482,10241,60305,60934]],[[52231,20482,30723,27502,60934,9946,10241,60305],[20482,52231,27502,30723,9946,60934,60305,10241],[30723,27502,52231,20482,10241,60305,60934,9946],[27502,30723,20482,52231,60305,10241,9946,60934]]]]
def rowsL2 (k m : Nat) : List (List Nat) := (identM (k + 1)).map nOf ++ (parL2.getD k []).getD m []
theorem j2 : ∀ k, k < 8 → ∀ m, m < 4 → chk 15 69643 13 (k + 1) (rowsL2 k m) = true := by decide +kernel
theorem e2 : ∀ k, k < 8 → ∀ m, m < 4 → (identM (k + 1) ++ tabM (k + 1) (m + 1)).map nOf = rowsL2 k m := by decide +kernel
theorem chk_2 (K M : Nat) (h1 : 1 ≤ K) (h2 : K ≤ 8) (h3 : 1 ≤ M) (h4 : M ≤ 4) : chk 15 69643 13 K ((genM 2 K M).map nOf) = true := by
 obtain ⟨k, rfl⟩ : ∃ k, K = k + 1 := ⟨K - 1, by omega⟩
 obtain ⟨m, rfl⟩ : ∃ m, M = m + 1 := ⟨M - 1, by omega⟩
 rw [show genM 2 (k + 1) (m + 1) = identM (k + 1) ++ tabM (k + 1) (m + 1) by unfold genM; rw [par2_tab (k + 1) (m + 1) (by omega) (by omega)]]
 rw [e2 k (by omega) m (by omega)]
 exact j2 k (by omega) m (by omega)
def parL3 : List (List (List (List Nat))) := [[[[1]],[[1],[1]],[[1],[1],[1]]],[[[1,1]],[[1,1],[1,2]],[[1,1],[1,2],[1,4]]],[[[1,1,1]],[[1,1,1],[1,2,4]],[[1,1,1],[1,2,4],[1,4,16]]],[[[1,1,1,1]],[[1,1,1,1],[1,2,4,8]],[[1,1,1,1],[1,2,4,8],[1,4,16,64]]],[[[1,1,1,1,1]],[[1,1,1,1,1],[1,2,4,8,16]],[[1,1,1,1,1],[1,2,4,8,16],[1,4,16,64,29]]],[[[1,1,1,1,1,1]],[[1,1,1,1,1,1],[1,2,4,8,16,32]],[[1,1,1,1,1,1],[1,2,4,8,16,32],[1,4,16,64,29,116]]],[[[1,1,1,1,1,1,1]],[[1,1,1,1,1,1,1],[1,2,4,8,16,32,64]],[[1,1,1,1,1,1,1],[1,2,4,8,16,32,64],[1,4,16,64,29,116,205]]],[[[1,1,1,1,1,1,1,1]],[[1,1,1,1,1,1,1,1],[1,2,4,8,16,32,64,128]],[[1,1,1,1,1,1,1,1],[1,2,4,8,16,32,64,128],[1,4,16,64,29,116,205,19]]]]
def rowsL3 (k m : Nat) : List (List Nat) := (identM (k + 1)).map nOf ++ (parL3.getD k []).getD m []
theorem j3 : ∀ k, k < 8 → ∀ m, m < 3 → chk 7 285 13 (k + 1) (rowsL3 k m) = true := by decide +kernel
theorem e3 : ∀ k, k < 8 → ∀ m, m < 3 → (genM 3 (k + 1) (m + 1)).map nOf = rowsL3 k m := by decide +kernel
theorem chk_3 (K M : Nat) (h1 : 1 ≤ K) (h2 : K ≤ 8) (h3 : 1 ≤ M) (h4 : M ≤ 3) : chk 7 285 13 K ((genM 3 K M).map nOf) = true := by
 obtain ⟨k, rfl⟩ : ∃ k, K = k + 1 := ⟨K - 1, by omega⟩
 obtain ⟨m, rfl⟩ : ∃ m, M = m + 1 := ⟨M - 1, by omega⟩
 rw [e3 k (by omega) m (by omega)]
 exact j3 k (by omega) m (by omega)
def parL4 : List (List (List (List Nat))) := [[[[1]],[[1],[142]],[[1],[142],[244]],[[1],[142],[244],[71]]],[[[142,244]],[[142,244],[244,142]],[[142,244],[244,142],[71,167]],[[142,244],[244,142],[71,167],[167,71]]],[[[244,142,1]],[[244,142,1],[71,167,122]],[[244,142,1],[71,167,122],[167,71,186]],[[244,142,1],[71,167,122],[167,71,186],[122,186,71]]],[[[71,167,122,186]],[[71,167,122,186],[167,71,186,122]],[[71,167,122,186],[167,71,186,122],[122,186,71,167]],[[71,167,122,186],[167,71,186,122],[122,186,71,167],[186,122,167,71]]],[[[167,71,186,122,1]],[[167,71,186,122,1],[122,186,71,167,142]],[[167,71,186,122,1],[122,186,71,167,142],[186,122,167,71,244]],[[167,71,186,122,1],[122,186,71,167,142],[186,122,167,71,244],[173,157,221,152,61]]],[[[122,186,71,167,142,244]],[[122,186,71,167,142,244],[186,122,167,71,244,142]],[[122,186,71,167,142,244],[186,122,167,71,244,142],[173,157,221,152,61,170]],[[122,186,71,167,142,244],[186,122,167,71,244,142],[173,157,221,152,61,170],[157,173,152,221,170,61]]],[[[186,122,167,71,244,142,1]],[[186,122,167,71,244,142,1],[173,157,221,152,61,170,93]],[[186,122,167,71,244,142,1],[173,157,221,152,61,170,93],[157,173,152,221,170,61,150]],[[186,122,167,71,244,142,1],[173,157,221,152,61,170,93],[157,173,152,221,170,61,150],[221,152,173,157,93,150,61]]],[[[173,157,221,152,61,170,93,150]],[[173,157,221,152,61,170,93,150],[157,173,152,221,170,61,150,93]],[[173,157,221,152,61,170,93,150],[157,173,152,221,170,61,150,93],[221,152,173,157,93,150,61,170]],[[173,157,221,152,61,170,93,150],[157,173,152,221,170,61,150,93],[221,152,173,157,93,150,61,170],[152,221,157,173,150,93,170,61]]]]
def rowsL4 (k m : Nat) : List (List Nat) := (identM (k + 1)).map nOf ++ (parL4.getD k []).getD m []
theorem j4 : ∀ k, k < 8 → ∀ m, m < 4 → chk 7 285 13 (k + 1) (rowsL4 k m) = true := by decide +kernel
theorem e4 : ∀ k, k < 8 → ∀ m, m < 4 → (genM 4 (k + 1) (m + 1)).map nOf = rowsL4 k m := by decide +kernel
theorem chk_4 (K M : Nat) (h1 : 1 ≤ K) (h2 : K ≤ 8) (h3 : 1 ≤ M) (h4 : M ≤ 4) : chk 7 285 13 K ((genM 4 K M).map nOf) = true := by
 obtain ⟨k, rfl⟩ : ∃ k, K = k + 1 := ⟨K - 1, by omega⟩
 obtain ⟨m, rfl⟩ : ∃ m, M = m + 1 := ⟨M - 1, by omega⟩
 rw [e4 k (by omega) m (by omega)]
 exact j4 k (by omega) m (by omega)
def parL5 : List (List (List (List Nat))) := [[[[1]],[[1],[1]],[[1],[1],[1]],[[1],[1],[1],[1]]],[[[3,2]],[[3,2],[2,3]],[[3,2],[2,3],[5,4]],[[3,2],[2,3],[5,4],[4,5]]],[[[1,1,1]],[[1,1,1],[15,8,6]],[[1,1,1],[15,8,6],[14,9,6]],[[1,1,1],[15,8,6],[14,9,6],[14,8,7]]],[[[27,28,18,20]],[[27,28,18,20],[28,27,20,18]],[[27,28,18,20],[28,27,20,18],[18,20,27,28]],[[27,28,18,20],[28,27,20,18],[18,20,27,28],[20,18,28,27]]],[[[7,7,6,6,1]],[[7,7,6,6,1],[9,8,9,8,1]],[[7,7,6,6,1],[9,8,9,8,1],[15,14,14,15,1]],[[7,7,6,6,1],[9,8,9,8,1],[15,14,14,15,1],[2,125,149,253,22]]],[[[7,6,5,4,3,2]],[[7,6,5,4,3,2],[6,7,4,5,2,3]],[[7,6,5,4,3,2],[6,7,4,5,2,3],[160,223,223,183,254,232]],[[7,6,5,4,3,2],[6,7,4,5,2,3],[160,223,223,183,254,232],[223,160,183,223,232,254]]],[[[1,1,1,1,1,1,1]],[[1,1,1,1,1,1,1],[61,163,157,20,192,55,225]],[[1,1,1,1,1,1,1],[61,163,157,20,192,55,225],[66,220,245,124,214,33,225]],[[1,1,1,1,1,1,1],[61,163,157,20,192,55,225],[66,220,245,124,214,33,225],[170,35,10,148,214,55,247]]],[[[26,132,186,51,231,16,198,39]],[[26,132,186,51,231,16,198,39],[132,26,51,186,16,231,39,198]],[[26,132,186,51,231,16,198,39],[132,26,51,186,16,231,39,198],[186,51,26,132,198,39,231,16]],[[26,132,186,51,231,16,198,39],[132,26,51,186,16,231,39,198],[186,51,26,132,198,39,231,16],[51,186,132,26,39,198,16,231]]]]
def rowsL5 (k m : Nat) : List (List Nat) := (identM (k + 1)).map nOf ++ (parL5.getD k []).getD m []
theorem j5 : ∀ k, k < 8 → ∀ m, m < 4 → chk 7 285 13 (k + 1) (rowsL5 k m) = true := by decide +kernel
theorem e5 : ∀ k, k < 8 → ∀ m, m < 4 → (genM 5 (k + 1) (m + 1)).map nOf = rowsL5 k m := by decide +kernel
theorem chk_5 (K M : Nat) (h1 : 1 ≤ K) (h2 : K ≤ 8) (h3 : 1 ≤ M) (h4 : M ≤ 4) : chk 7 285 13 K ((genM 5 K M).map nOf) = true := by
 obtain ⟨k, rfl⟩ : ∃ k, K = k + 1 := ⟨K - 1, by omega⟩
 obtain ⟨m, rfl⟩ : ∃ m, M = m + 1 := ⟨M - 1, by omega⟩
 rw [e5 k (by omega) m (by omega)]
 exact j5 k (by omega) m (by omega)
def wd (wb : Int) (r : List Nat) : List Nat := if wb = 8 then r else pairN r
def wAt (wb : Int) (t : Nat) (r : List Nat) : Nat := (wd wb r).getD t 0
theorem wd_len {wb : Int} (hw : wb = 8 ∨ wb = 16) (r : List Nat) : (wd wb r).length = r.length / wN wb := by
 rcases hw with rfl | rfl
 ·simp [wd, wN]
 ·simp [wd, wN, pairN_len]
theorem wd_lt {wb : Int} (hw : wb = 8 ∨ wb = 16) (r : List Nat) (h : ∀ x, x ∈ r → x < 256) : ∀ x, x ∈ wd wb r → x < fN wb := by
 rcases hw with rfl | rfl
 ·exact h
 ·exact pairN_lt r h
theorem wd_xor {wb : Int} (hw : wb = 8 ∨ wb = 16) (a b : List Nat) (hl : a.length = b.length) (ha : ∀ x, x ∈ a → x < 256) (hb : ∀ x, x ∈ b → x < 256) : wd wb (xorN a b) = xorN (wd wb a) (wd wb b) := by
 rcases hw with rfl | rfl
 ·rfl
 ·exact pairN_xor a b hl ha hb
theorem wd_mul {wb : Int} (hw : wb = 8 ∨ wb = 16) (c : Int) (r : List Nat) : wd wb (mulN wb c r) = mapN (mN wb c) (wd wb r) := by
 rcases hw with rfl | rfl
 ·rfl
 ·show pairN (flatN (mapN (mN 16 c) (pairN r))) = mapN (mN 16 c) (pairN r)
  exact pair_flat _ (fun x hx => by
   obtain ⟨y, -, rfl⟩ := List.mem_map.1 hx
   exact mN_lt16 c y)
theorem wd_inj {wb : Int} (hw : wb = 8 ∨ wb = 16) (a b : List Nat) (ha : ∀ x, x ∈ a → x < 256) (hb : ∀ x, x ∈ b → x < 256) (ea : a.length % wN wb = 0) (eb : b.length % wN wb = 0) (h : wd wb a = wd wb b) : a = b := by
 rcases hw with rfl | rfl
 ·exact h
 ·rw [← flat_pair a (by simpa [wN] using ea) ha, ← flat_pair b (by simpa [wN] using eb) hb]
  exact congrArg flatN h
theorem mN_gm {wb : Int} (hw : wb = 8 ∨ wb = 16) {c : Int} (hc : 0 ≤ c ∧ c < fsize wb) (x : Nat) (hx : x < fN wb) : mN wb c x = gmN wb c.toNat x := by
 rcases hw with rfl | rfl
 ·exact mN_in8 hc.1 hc.2 x hx
 ·exact mN_in16 hc.1 hc.2 x hx
theorem getD_xorN : ∀ (a b : List Nat) (t : Nat), a.length = b.length → (xorN a b).getD t 0 = a.getD t 0 ^^^ b.getD t 0
 | [], [], t, _ => by simp [xorN]
 | x :: a, y :: b, 0, _ => rfl
 | x :: a, y :: b, t + 1, h => by
  have ih := getD_xorN a b t (by simpa using h)
  show (xorN a b).getD t 0 = _
  rw [ih]; rfl
 | [], _ :: _, _, h => by simp at h
 | _ :: _, [], _, h => by simp at h
theorem getD_lt {n : Nat} (hn : 0 < n) (l : List Nat) (h : ∀ x, x ∈ l → x < n) (t : Nat) : l.getD t 0 < n := by
 rw [List.getD_eq_getElem?_getD]
 cases e : l[t]? with
 | none => exact hn
 | some x => exact h x (List.mem_of_getElem? e)
theorem fN_pos {wb : Int} (hw : wb = 8 ∨ wb = 16) : 0 < fN wb := by rcases hw with rfl | rfl <;> decide
theorem wAt_lt {wb : Int} (hw : wb = 8 ∨ wb = 16) (t : Nat) (r : List Nat) (h : ∀ x, x ∈ r → x < 256) : wAt wb t r < fN wb := getD_lt (fN_pos hw) _ (wd_lt hw r h) t
theorem wAt_mul {wb : Int} (hw : wb = 8 ∨ wb = 16) {c : Int} (hc : 0 ≤ c ∧ c < fsize wb) (t : Nat) (r : List Nat) (h : ∀ x, x ∈ r → x < 256) : wAt wb t (mulN wb c r) = gmN wb c.toNat (wAt wb t r) := by
 unfold wAt
 rw [wd_mul hw]
 unfold mapN
 rw [List.getD_eq_getElem?_getD, List.getElem?_map, List.getD_eq_getElem?_getD]
 cases e : (wd wb r)[t]? with
 | none => rw [Option.map_none, Option.getD_none, b8z hw]
 | some x =>
  rw [Option.map_some, Option.getD_some, Option.getD_some]
  exact mN_gm hw hc x (wd_lt hw r h x (List.mem_of_getElem? e))
theorem wAt_xor {wb : Int} (hw : wb = 8 ∨ wb = 16) (t : Nat) (a b : List Nat) (hl : a.length = b.length) (ha : ∀ x, x ∈ a → x < 256) (hb : ∀ x, x ∈ b → x < 256) : wAt wb t (xorN a b) = wAt wb t a ^^^ wAt wb t b := by
 unfold wAt
 rw [wd_xor hw a b hl ha hb, getD_xorN _ _ _ (by rw [wd_len hw, wd_len hw, hl])]
theorem dot_fold {wb : Int} (hw : wb = 8 ∨ wb = 16) (S : Nat) (hS : S % wN wb = 0) (t : Nat) : ∀ (c : List Int) (P : List (List Nat)) (a : List Nat), (∀ x, x ∈ c → 0 ≤ x ∧ x < fsize wb) → (∀ q, q ∈ P → q.length = S ∧ ∀ z, z ∈ q → z < 256) → (a.length = S ∧ ∀ z, z ∈ a → z < 256) →
  wAt wb t ((List.zipWith (mulN wb) c P).foldl xorN a) = wAt wb t a ^^^ evN wb c (P.map (wAt wb t))
 | [], P, a, _, _, _ => by simp [evN]
 | _ :: _, [], a, _, _, _ => by simp [evN]
 | x :: c, r :: P, a, hc, hP, ha => by
  have hr := hP r (List.mem_cons_self ..)
  have hml : (mulN wb x r).length = S := by rw [mulN_len hw _ _ hr.2 (by rw [hr.1]; exact hS)]; exact hr.1
  have ih := dot_fold hw S hS t c P (xorN a (mulN wb x r)) (fun q hq => hc q (List.mem_cons_of_mem _ hq)) (fun q hq => hP q (List.mem_cons_of_mem _ hq)) ⟨xorN_len2 ha.1 hml, xorN_lt (w := 8) _ _ ha.2 (mulN_lt _ _ _)⟩
  show wAt wb t ((List.zipWith (mulN wb) c P).foldl xorN (xorN a (mulN wb x r))) = wAt wb t a ^^^ (gmN wb x.toNat (wAt wb t r) ^^^ evN wb c (P.map (wAt wb t)))
  rw [ih, wAt_xor hw t _ _ (by omega) ha.2 (mulN_lt _ _ _), wAt_mul hw (hc x (List.mem_cons_self ..)) t r hr.2, Nat.xor_assoc]
theorem wAt_zero (wb : Int) (hw : wb = 8 ∨ wb = 16) (S t : Nat) : wAt wb t (List.replicate S 0) = 0 := by
 have h : ∀ x, x ∈ wd wb (List.replicate S 0) → x = 0 := by
  rcases hw with rfl | rfl
  ·intro x hx
   exact List.eq_of_mem_replicate hx
  ·have key : ∀ (n : Nat) (l : List Nat), l.length ≤ n → (∀ x, x ∈ l → x = 0) → ∀ x, x ∈ pairN l → x = 0 := by
    intro n
    induction n using Nat.strongRecOn with
    | _ n ih =>
     intro l hl h x hx
     match l, hl, h, hx with
     | [], _, _, hx => simp [pairN] at hx
     | [_], _, _, hx => simp [pairN] at hx
     | u :: v :: l, hl, h, hx =>
      rcases List.mem_cons.1 hx with rfl | hx
      ·rw [h u (by simp), h v (by simp)]
      ·exact ih l.length (by simp at hl; omega) l (Nat.le_refl _) (fun z hz => h z (by simp [hz])) x hx
   exact key S _ (by simp) (fun x hx => List.eq_of_mem_replicate hx)
 unfold wAt
 rw [List.getD_eq_getElem?_getD]
 cases e : (wd wb (List.replicate S 0))[t]? with
 | none => rfl
 | some x => exact h x (List.mem_of_getElem? e)
theorem dot_word {wb : Int} (hw : wb = 8 ∨ wb = 16) (S : Nat) (hS : S % wN wb = 0) (t : Nat) (c : List Int) (P : List (List Nat)) (hc : ∀ x, x ∈ c → 0 ≤ x ∧ x < fsize wb) (hP : ∀ q, q ∈ P → q.length = S ∧ ∀ z, z ∈ q → z < 256) :
  wAt wb t (dotN S wb c P) = evN wb c (P.map (wAt wb t)) := by
 unfold dotN
 rw [dot_fold hw S hS t c P _ hc hP ⟨by simp, fun z hz => by have := List.eq_of_mem_replicate hz; omega⟩, wAt_zero wb hw, Nat.zero_xor]
theorem word_inj {wb : Int} (hw : wb = 8 ∨ wb = 16) (S : Nat) (hS : S % wN wb = 0) (a b : List Nat) (ha : a.length = S ∧ ∀ x, x ∈ a → x < 256) (hb : b.length = S ∧ ∀ x, x ∈ b → x < 256) (h : ∀ t, wAt wb t a = wAt wb t b) : a = b := by
 refine wd_inj hw a b ha.2 hb.2 (by rw [ha.1]; exact hS) (by rw [hb.1]; exact hS) ?_
 refine List.ext_getElem? (fun t => ?_)
 have hl : (wd wb a).length = (wd wb b).length := by rw [wd_len hw, wd_len hw, ha.1, hb.1]
 by_cases ht : t < (wd wb a).length
 ·have := h t
  unfold wAt at this
  rw [List.getD_eq_getElem?_getD, List.getD_eq_getElem?_getD, List.getElem?_eq_getElem ht, List.getElem?_eq_getElem (by omega)] at this
  rw [List.getElem?_eq_getElem ht, List.getElem?_eq_getElem (by omega)]
  exact congrArg some this
 ·rw [List.getElem?_eq_none (by omega), List.getElem?_eq_none (by omega)]
theorem evN_evK8 : ∀ (r : List Int) (v : List Nat), evN 8 r v = evK 7 285 (nOf r) v
 | [], [] => rfl
 | [], _ :: _ => rfl
 | _ :: _, [] => rfl
 | x :: r, y :: v => by
  show gmN 8 x.toNat y ^^^ evN 8 r v = gm 7 285 x.toNat y ^^^ evK 7 285 (nOf r) v
  rw [evN_evK8 r v]; rfl
theorem evN_evK16 : ∀ (r : List Int) (v : List Nat), evN 16 r v = evK 15 69643 (nOf r) v
 | [], [] => rfl
 | [], _ :: _ => rfl
 | _ :: _, [] => rfl
 | x :: r, y :: v => by
  show gmN 16 x.toNat y ^^^ evN 16 r v = gm 15 69643 x.toNat y ^^^ evK 15 69643 (nOf r) v
  rw [evN_evK16 r v]; rfl
theorem good_nOf {wb : Int} (hw : wb = 8 ∨ wb = 16) {n : Nat} {A : List (List Int)} (h : ∀ r, r ∈ A → Good wb n r) : ∀ r, r ∈ A.map nOf → r.length = n ∧ ∀ x, x ∈ r → x < fN wb := by
 intro r hr
 obtain ⟨q, hq, rfl⟩ := List.mem_map.1 hr
 refine ⟨by rw [nOf_len]; exact (h q hq).1, fun x hx => ?_⟩
 obtain ⟨y, hy, rfl⟩ := List.mem_map.1 hx
 exact bgz hw ((h q hq).2 y hy)
theorem dCz (n : Nat) (G : List (List Int)) (hG : ∀ r, r ∈ G → Good 8 n r) (h : chk 7 285 13 n (G.map nOf) = true) (A : List (List Int)) (hs : A.Sublist G) (hl : A.length = n) : InjN 8 n A := by
 intro v hv hx hz
 have hk := chk_inj gf8 13 n _ h (good_nOf (.inl rfl) hG) (A.map nOf) (hs.map nOf) (by rw [List.length_map, hl])
 exact hk v hv hx (fun r hr => by
  obtain ⟨q, hq, rfl⟩ := List.mem_map.1 hr
  rw [← evN_evK8]
  exact hz q hq)
theorem injN_of16 (n : Nat) (G : List (List Int)) (hG : ∀ r, r ∈ G → Good 16 n r) (h : chk 15 69643 13 n (G.map nOf) = true) (A : List (List Int)) (hs : A.Sublist G) (hl : A.length = n) : InjN 16 n A := by
 intro v hv hx hz
 have hk := chk_inj gf16 13 n _ h (good_nOf (.inr rfl) hG) (A.map nOf) (hs.map nOf) (by rw [List.length_map, hl])
 exact hk v hv hx (fun r hr => by
  obtain ⟨q, hq, rfl⟩ := List.mem_map.1 hr
  rw [← evN_evK16]
  exact hz q hq)
theorem genM_good (p : Int) (K M : Nat) (h1 : 1 ≤ K) (h2 : 1 ≤ M) (h3 : K ≤ 8) (h4 : M ≤ 4) : (∀ r, r ∈ genM p K M → Good (pbits p) K r) ∧ (genM p K M).length = K + M := by
 have hg := cxz p K M h1 h2 h3 h4
 unfold genM
 refine ⟨fun r hr => ?_, by rw [List.length_append, aUz, hg.2]⟩
 rcases List.mem_append.1 hr with hr | hr
 ·exact cpz _ (dSz p) K r hr
 ·exact hg.1 r hr
theorem may3 : ∀ K : Nat, K < 9 → ∀ M : Nat, M < 5 → aiz.f 3 (K : Int) (M : Int) = some true → M ≤ 3 := by decide +kernel
theorem inj_all (p : Int) (K M : Nat) (hmay : aiz.f p (K : Int) (M : Int) = some true) (A : List (List Int)) (hs : A.Sublist (genM p K M)) (hl : A.length = K) : InjN (pbits p) K A := by
 obtain ⟨p1, p2, k1, k2, m1, m2⟩ := boz hmay
 have hg := (genM_good p K M (by omega) (by omega) (by omega) (by omega)).1
 rcases six p1 p2 with rfl | rfl | rfl | rfl | rfl | rfl
 ·exact dCz K _ hg (chk_1 K M (by omega) (by omega) (by omega) (by omega)) A hs hl
 ·exact injN_of16 K _ hg (chk_2 K M (by omega) (by omega) (by omega) (by omega)) A hs hl
 ·exact dCz K _ hg (chk_3 K M (by omega) (by omega) (by omega) (may3 K (by omega) M (by omega) hmay)) A hs hl
 ·exact dCz K _ hg (chk_4 K M (by omega) (by omega) (by omega) (by omega)) A hs hl
 ·exact dCz K _ hg (chk_5 K M (by omega) (by omega) (by omega) (by omega)) A hs hl
 ·exact dCz K _ hg (chk_5 K M (by omega) (by omega) (by omega) (by omega)) A hs hl
theorem dUz : ∀ (i : Nat) (l : List (List Int)) (hv : List Bool) (x : Nat × List Int), x ∈ thereF i l hv → i ≤ x.1 ∧ l[x.1 - i]? = some x.2
 | _, [], _, x, h => by simp [thereF] at h
 | _, _ :: _, [], x, h => by simp [thereF] at h
 | i, b :: l, h :: hv, x, hx => by
  have ih := dUz (i + 1) l hv x
  have fin : x ∈ thereF (i + 1) l hv → i ≤ x.1 ∧ (b :: l)[x.1 - i]? = some x.2 := fun hq => by
   obtain ⟨e1, e2⟩ := ih hq
   refine ⟨by omega, ?_⟩
   rw [show x.1 - i = (x.1 - (i + 1)) + 1 by omega, List.getElem?_cons_succ]
   exact e2
  unfold thereF at hx
  by_cases hh : h = true
  ·rw [if_pos hh] at hx
   rcases List.mem_cons.1 hx with rfl | hx
   ·exact ⟨Nat.le_refl _, by simp⟩
   ·exact fin hx
  ·rw [if_neg hh] at hx
   exact fin hx
theorem thereF_sub : ∀ (i : Nat) (l : List (List Int)) (hv : List Bool) (g : List (List Int)), g.length = l.length → ((thereF i l hv).map fun x => g.getD (x.1 - i) []).Sublist g
 | _, [], hv, g, _ => by simp [thereF]
 | _, _ :: _, [], g, _ => by simp [thereF]
 | i, b :: l, h :: hv, [], e => by simp at e
 | i, b :: l, h :: hv, a :: g, e => by
  have ih := thereF_sub (i + 1) l hv g (by simpa using e)
  have hm : ((thereF (i + 1) l hv).map fun x => (a :: g).getD (x.1 - i) []) = (thereF (i + 1) l hv).map fun x => g.getD (x.1 - (i + 1)) [] := by
   refine List.map_congr_left (fun x hx => ?_)
   have := (dUz (i + 1) l hv x hx).1
   rw [show x.1 - i = (x.1 - (i + 1)) + 1 by omega, List.getD_cons_succ]
  rw [thereF]
  by_cases hh : h = true
  ·rw [if_pos hh, List.map_cons, hm]
   simp only [Nat.sub_self, List.getD_cons_zero]
   exact ih.cons_cons a
  ·rw [if_neg hh, hm]
   exact ih.cons a
theorem setAll_same : ∀ (T : List (Nat × List Int)) (l : List (List Int)), (∀ x, x ∈ T → l[x.1]? = some x.2) → setAll T l = l
 | [], _, _ => rfl
 | x :: T, l, h => by
  have h1 : l.set x.1 x.2 = l := by
   obtain ⟨e1, e2⟩ := List.getElem?_eq_some_iff.1 (h x (List.mem_cons_self ..))
   rw [← e2]
   exact List.set_getElem_self e1
  show setAll T (l.set x.1 x.2) = l
  rw [h1]
  exact setAll_same T l (fun y hy => h y (List.mem_cons_of_mem _ hy))
theorem dYz (sp : List Int) : ∀ (i : Nat) (l : List (List Int)) (hv : List Bool), l.length = hv.length → thereF i (List.zipWith (fun r h => if h = true then r else sp) l hv) hv = thereF i l hv
 | _, [], [], _ => rfl
 | i, b :: l, h :: hv, e => by
  have ih := dYz sp (i + 1) l hv (by simpa using e)
  rw [List.zipWith_cons_cons, thereF, thereF, ih]
  by_cases hh : h = true
  ·rw [if_pos hh, if_pos hh, if_pos hh]
  ·rw [if_neg hh, if_neg hh]
theorem data_l_ev (wb : Int) (S : Nat) (hS2 : S ≤ 1000000) (hS : S % wN wb = 0) (first : List (List Int)) (h0 : 0 < first.length) (hn : first.length ≤ 1000) (hr : ∀ r, r ∈ first → r.length = S) : ∀ (rs acc : List (List Int)), (∀ c, c ∈ rs → c.length = first.length) → Ev (fun k => akz.l k wb first rs acc) (acc ++ rs.map fun c => dotV S wb c first, 0)
 | [], acc, _ => by
  refine Ev.congr (fun k => ?_) (Ev.now _)
  simp [akz.l]
 | c :: rs, acc, hc => by
  have h1 := dot_ev wb S hS2 hS c first h0 (hc c (List.mem_cons_self ..)) hn hr
  have ih := data_l_ev wb S hS2 hS first h0 hn hr rs (acc ++ [dotV S wb c first]) (fun q hq => hc q (List.mem_cons_of_mem _ hq))
  rw [List.append_assoc] at ih
  exact Ev.bind h1 ih
theorem shard_word (p : Int) (K M S : Nat) (hmay : aiz.f p (K : Int) (M : Int) = some true) (hS : S % wN (pbits p) = 0) (data : List (List Int)) (hK : data.length = K) (hD : isBL data S) (j : Nat) (row g : List Int) (hj : (data ++ parV S p K M data)[j]? = some row) (hg : (genM p K M)[j]? = some g) (t : Nat) :
  wAt (pbits p) t (nOf row) = evN (pbits p) g ((data.map nOf).map (wAt (pbits p) t)) := by
 obtain ⟨p1, p2, k1, k2, m1, m2⟩ := boz hmay
 obtain ⟨e, hb⟩ := ejz hD
 have hw := dSz p
 have hgd := cxz p K M (by omega) (by omega) (by omega) (by omega)
 by_cases hjK : j < K
 ·rw [List.getElem?_append_left (by omega)] at hj
  unfold genM at hg
  rw [List.getElem?_append_left (by rw [aUz]; exact hjK), identM_at K j hjK] at hg
  obtain rfl := Option.some.inj hg
  have hu : ((data.map nOf).map (wAt (pbits p) t)).getD j 0 = wAt (pbits p) t (nOf row) := by
   rw [List.getD_eq_getElem?_getD, List.getElem?_map, List.getElem?_map, hj]; rfl
  have hlt : wAt (pbits p) t (nOf row) < fN (pbits p) := wAt_lt hw t _ (nOf_lt row (hD row (List.mem_of_getElem? hj)).2)
  rw [evN_at hw _ _ j (by simp; omega) (by rw [hu]; exact hlt) (by rw [dTz K j j hjK, if_pos rfl]) (fun i hi hne => .inl (by
   rw [dTz K j i (by simp at hi; omega), if_neg (fun h => hne h.symm)])), hu]
 ·rw [List.getElem?_append_right (by omega), hK] at hj
  unfold parV at hj
  rw [List.getElem?_map] at hj
  unfold genM at hg
  rw [List.getElem?_append_right (by rw [aUz]; omega), aUz] at hg
  rw [hg] at hj
  obtain rfl := Option.some.inj hj
  have hc := hgd.1 g (List.mem_of_getElem? hg)
  have hdv : dotV S (pbits p) g data = castN (dotN S (pbits p) g (data.map nOf)) := by
   rw [← eiz hw S g _ (fun q hq => ⟨(hb q hq).2, by rw [(hb q hq).1]; exact hS⟩), e]
  show wAt (pbits p) t (nOf (dotV S (pbits p) g data)) = _
  rw [hdv]
  have hn : nOf (castN (dotN S (pbits p) g (data.map nOf))) = dotN S (pbits p) g (data.map nOf) := castN_inj _ _ (by
   rw [dRz _ (fun x hx => by
    obtain ⟨y, hy, rfl⟩ := List.mem_map.1 hx
    have := dotN_lt _ _ _ _ y hy
    omega)])
  rw [hn, dot_word hw S hS t g _ hc.2 hb]
theorem first_tells (p : Int) (K M S : Nat) (hmay : aiz.f p (K : Int) (M : Int) = some true) (hS : S % wN (pbits p) = 0) (data : List (List Int)) (hK : data.length = K) (hD : isBL data S) (hv : List Bool) (T : List (Nat × List Int)) (hT : thereF 0 (data ++ parV S p K M data) hv = T) (hTK : K ≤ T.length) :
  (invF (pbits p) (subM p K M (akz.is K T))).2 = K ∧ (((invF (pbits p) (subM p K M (akz.is K T))).1.map (·.drop K)).map fun c => dotV S (pbits p) c ((T.take K).map Prod.snd)) = data ∧ (∀ c, c ∈ (invF (pbits p) (subM p K M (akz.is K T))).1.map (·.drop K) → c.length = K) := by
 obtain ⟨p1, p2, k1, k2, m1, m2⟩ := boz hmay
 obtain ⟨e, hb⟩ := ejz hD
 have hw := dSz p
 have hgl := genM_good p K M (by omega) (by omega) (by omega) (by omega)
 have hpl := c2z S p K M data hmay
 have hpb := ekz p K M S data hS hD
 have hLl : (data ++ parV S p K M data).length = K + M := by rw [List.length_append, hK, hpl]
 have hLb : isBL (data ++ parV S p K M data) S := fun r hr => by
  rcases List.mem_append.1 hr with hr | hr
  ·exact hD r hr
  ·exact hpb r hr
 have hat : ∀ x, x ∈ T → (data ++ parV S p K M data)[x.1]? = some x.2 := fun x hx => by
  have := (dUz 0 _ hv x (by rw [hT]; exact hx)).2
  rwa [Nat.sub_zero] at this
 have hA : subM p K M (akz.is K T) = (T.take K).map fun x => (genM p K M).getD x.1 [] := by
  unfold subM pickF akz.is
  rw [List.map_map]
  refine List.map_congr_left (fun x _ => ?_)
  show (genM p K M).getD ((x.1 : Int)).toNat [] = _
  rw [Int.toNat_natCast]
 have hsub : (subM p K M (akz.is K T)).Sublist (genM p K M) := by
  have h1 := thereF_sub 0 (data ++ parV S p K M data) hv (genM p K M) (by rw [hgl.2, hLl])
  rw [hT] at h1
  rw [hA, List.map_take]
  exact (List.take_sublist _ _).trans h1
 have hAl : (subM p K M (akz.is K T)).length = K := by rw [hA, List.length_map, List.length_take]; omega
 have hAg : ∀ r, r ∈ subM p K M (akz.is K T) → Good (pbits p) K r := fun r hr => hgl.1 r (hsub.subset hr)
 have hinj := inj_all p K M hmay _ hsub hAl
 have hAat : ∀ (i : Nat) (r : List Int), (subM p K M (akz.is K T))[i]? = some r → ∃ x, T[i]? = some x ∧ (genM p K M)[x.1]? = some r := fun i r hr => by
  rw [hA, List.getElem?_map, List.getElem?_take] at hr
  split at hr
  ·cases hx : T[i]? with
   | none => rw [hx] at hr; simp at hr
   | some x =>
    rw [hx] at hr
    refine ⟨x, rfl, ?_⟩
    have h2 := (List.getElem?_eq_some_iff.1 (hat x (List.mem_of_getElem? hx))).1
    have h3 : (genM p K M).getD x.1 [] = r := by simpa using hr
    rw [List.getD_eq_getElem?_getD, List.getElem?_eq_getElem (by rw [hgl.2]; omega)] at h3
    rw [List.getElem?_eq_getElem (by rw [hgl.2]; omega)]
    simpa using h3
  ·simp at hr
 generalize subM p K M (akz.is K T) = A at hsub hAl hAg hinj hAat
 have hfb : ∀ q, q ∈ (T.take K).map Prod.snd → q.length = S ∧ ∀ x, x ∈ q → 0 ≤ x ∧ x ≤ 255 := fun q hq => by
  obtain ⟨x, hx, rfl⟩ := List.mem_map.1 hq
  exact hLb x.2 (List.mem_of_getElem? (hat x (List.mem_of_mem_take hx)))
 have hfl : ((T.take K).map Prod.snd).length = K := by rw [List.length_map, List.length_take]; omega
 obtain ⟨ef, hfn⟩ := ejz hfb
 have hundo : ∀ t, (invF (pbits p) A).2 = K ∧ ∀ i y, (invF (pbits p) A).1[i]? = some y → ((data.map nOf).map (wAt (pbits p) t)).getD i 0 = evN (pbits p) (y.drop K) ((((T.take K).map Prod.snd).map nOf).map (wAt (pbits p) t)) := fun t =>
  inv_undo hw A K hAl hAg hinj _ _ (by simp [hK]) (fun x hx => by
   obtain ⟨q, hq, rfl⟩ := List.mem_map.1 hx
   exact wAt_lt hw t q (hb q hq).2) (by simp; omega) (fun x hx => by
   obtain ⟨q, hq, rfl⟩ := List.mem_map.1 hx
   exact wAt_lt hw t q (hfn q hq).2) (fun i r hr => by
   obtain ⟨x, hx, hgx⟩ := hAat i r hr
   have hiK : i < K := by have := (List.getElem?_eq_some_iff.1 hr).1; omega
   rw [← shard_word p K M S hmay hS data hK hD x.1 x.2 r (hat x (List.mem_of_getElem? hx)) hgx t, List.getD_eq_getElem?_getD, List.getElem?_map, List.getElem?_map, List.getElem?_map, List.getElem?_take_of_lt hiK, hx]
   rfl)
 have hig := invF_good hw A (by rw [hAl]; exact hAg)
 rw [hAl] at hig
 refine ⟨(hundo 0).1, ?_, fun c hc => ?_⟩
 ·refine List.ext_getElem? (fun i => ?_)
  rw [List.map_map, List.getElem?_map]
  by_cases hi : i < K
  ·obtain ⟨y, hy⟩ : ∃ y, (invF (pbits p) A).1[i]? = some y := ⟨_, List.getElem?_eq_getElem (by omega)⟩
   obtain ⟨d, hd⟩ : ∃ d, data[i]? = some d := ⟨_, List.getElem?_eq_getElem (by omega)⟩
   have hdb := hD d (List.mem_of_getElem? hd)
   have hyg := hig.1 y (List.mem_of_getElem? hy)
   have hcg : ∀ x, x ∈ y.drop K → 0 ≤ x ∧ x < fsize (pbits p) := fun x hx => hyg.2 x (List.mem_of_mem_drop hx)
   rw [hy, hd, Option.map_some]
   refine congrArg some ?_
   show dotV S (pbits p) (y.drop K) ((T.take K).map Prod.snd) = d
   rw [← ef, eiz hw S _ _ (fun q hq => ⟨(hfn q hq).2, by rw [(hfn q hq).1]; exact hS⟩), ← dRz d hdb.2]
   refine congrArg castN (word_inj hw S hS _ _ ⟨?_, dotN_lt _ _ _ _⟩ ⟨by rw [nOf_len]; exact hdb.1, nOf_lt d hdb.2⟩ (fun t => ?_))
   ·have h1 := dotV_len (wb := pbits p) (L := S) hS (c := y.drop K) (rows := (((T.take K).map Prod.snd).map nOf).map castN) (fun q hq => by rw [ef] at hq; exact (hfb q hq).1)
    rw [eiz hw S _ _ (fun q hq => ⟨(hfn q hq).2, by rw [(hfn q hq).1]; exact hS⟩)] at h1
    simpa [castN] using h1
   ·rw [dot_word hw S hS t _ _ hcg hfn, ← (hundo t).2 i y hy, List.getD_eq_getElem?_getD, List.getElem?_map, List.getElem?_map, hd]
    rfl
  ·rw [List.getElem?_eq_none (by omega), List.getElem?_eq_none (by omega)]
   rfl
 ·obtain ⟨y, hy, rfl⟩ := List.mem_map.1 hc
  have := (hig.1 y hy).1
  rw [List.length_drop]
  omega
def spL (sp : List Int) (l : List (List Int)) (hv : List Bool) : List (List Int) := List.zipWith (fun r h => if h = true then r else sp) l hv
theorem spL_length (sp : List Int) (l : List (List Int)) (hv : List Bool) (h : l.length = hv.length) : (spL sp l hv).length = l.length := by
 unfold spL
 rw [List.length_zipWith, ← h, Nat.min_self]
theorem spL_mem (sp : List Int) : ∀ (l : List (List Int)) (hv : List Bool) (r : List Int), r ∈ spL sp l hv → r ∈ l ∨ r = sp
 | [], _, r, h => by simp [spL] at h
 | _ :: _, [], r, h => by simp [spL] at h
 | a :: l, t :: hv, r, h => by
  have ih := spL_mem sp l hv r
  rcases List.mem_cons.1 (show r ∈ (if t = true then a else sp) :: spL sp l hv from h) with rfl | h
  ·by_cases ht : t = true
   ·rw [if_pos ht]; exact .inl (List.mem_cons_self ..)
   ·rw [if_neg ht]; exact .inr rfl
  ·rcases ih h with h | h
   ·exact .inl (List.mem_cons_of_mem _ h)
   ·exact .inr h
theorem spoilt_ev (l : List (List Int)) (hv : List Bool) (b : Int) (h : l.length = hv.length) (hn : l.length ≤ 1000) : Ev (fun k => anz.f k l hv b) (spL [b, 7] l hv) := by
 have key : ∀ (m i : Nat) (acc : List (List Int)), i + m = l.length → acc.length = i → Ev (fun k => anz.l0 k l hv b acc (i : Int)) (acc ++ spL [b, 7] (l.drop i) (hv.drop i)) := by
  intro m
  induction m with
  | zero =>
   intro i acc hi ha
   refine Ev.step (f := fun _ => some acc) (fun k => ?_) ?_
   ·rw [anz.l0, if_neg (by omega)]
   ·rw [List.drop_of_length_le (by omega)]
    simp only [spL, List.zipWith_nil_left, List.append_nil]
    exact Ev.now _
  | succ m ih =>
   intro i acc hi ha
   have h1 : l.drop i = l[i]'(by omega) :: l.drop (i + 1) := List.drop_eq_getElem_cons (by omega)
   have h2 : hv.drop i = hv[i]'(by omega) :: hv.drop (i + 1) := List.drop_eq_getElem_cons (by omega)
   have hr : rd_L1 l (i : Int) = l[i]'(by omega) := by
    unfold rd_L1
    rw [Int.toNat_natCast, List.getD_eq_getElem?_getD, List.getElem?_eq_getElem (by omega)]; rfl
   have hh : rdOf false hv (i : Int) = hv[i]'(by omega) := by
    unfold rdOf
    rw [Int.toNat_natCast, List.getD_eq_getElem?_getD, List.getElem?_eq_getElem (by omega)]; rfl
   have ih2 := ih (i + 1) (acc ++ [if hv[i]'(by omega) = true then l[i]'(by omega) else [b, 7]]) (by omega) (by simp [ha])
   rw [h1, h2, show spL [b, 7] (l[i]'(by omega) :: l.drop (i + 1)) (hv[i]'(by omega) :: hv.drop (i + 1)) = (if hv[i]'(by omega) = true then l[i]'(by omega) else [b, 7]) :: spL [b, 7] (l.drop (i + 1)) (hv.drop (i + 1)) from rfl, List.append_cons]
   refine Ev.step (fun k => ?_) ih2
   rw [anz.l0, if_pos (by omega), if_pos (by omega), if_pos (by omega), hh, hr, bHz (by omega)]
   by_cases ht : hv[i]'(by omega) = true
   ·rw [if_pos ht, if_pos (by omega), if_pos ht]
   ·rw [if_neg ht, if_pos (by omega), if_neg ht]
 exact Ev.congr (fun k => rfl) (key l.length 0 [] (by omega) rfl)
theorem data_any (p : Int) (K M S : Nat) (hmay : aiz.f p (K : Int) (M : Int) = some true) (hS : S % wN (pbits p) = 0) (hS2 : S ≤ 1000000) (data : List (List Int)) (hK : data.length = K) (hD : isBL data S) (hv : List Bool) (hvl : hv.length = K + M) (hc : K ≤ trueN hv) (sp : List Int) :
  Ev (fun k => akz.f k p (K : Int) (M : Int) (spL sp (data ++ parV S p K M data) hv) hv) (data, 0) := by
 obtain ⟨p1, p2, k1, k2, m1, m2⟩ := boz hmay
 have hpl := c2z S p K M data hmay
 have hpb := ekz p K M S data hS hD
 have hLl : (data ++ parV S p K M data).length = K + M := by rw [List.length_append, hK, hpl]
 have hLb : ∀ r, r ∈ data ++ parV S p K M data → r.length = S := fun r hr => by
  rcases List.mem_append.1 hr with hr | hr
  ·exact (hD r hr).1
  ·exact (hpb r hr).1
 have hsl : (spL sp (data ++ parV S p K M data) hv).length = K + M := by rw [spL_length _ _ _ (by omega), hLl]
 have hth : thereF 0 (spL sp (data ++ parV S p K M data) hv) hv = thereF 0 (data ++ parV S p K M data) hv := dYz sp 0 _ hv (by omega)
 have hTl : (thereF 0 (data ++ parV S p K M data) hv).length = trueN hv := erz 0 _ hv (by omega)
 have hTm : ∀ x, x ∈ thereF 0 (data ++ parV S p K M data) hv → x.2.length = S := fun x hx => hLb x.2 (egz 0 _ hv x hx)
 obtain ⟨T, hT⟩ : ∃ T, thereF 0 (data ++ parV S p K M data) hv = T := ⟨_, rfl⟩
 obtain ⟨f1, f2, f3⟩ := first_tells p K M S hmay hS data hK hD hv T hT (by rw [← hT, hTl]; exact hc)
 rw [hT] at hth hTl hTm
 have hgood : goodL (pbits p) (len0 T) T = true := by
  have h0 : len0 T = S := by
   obtain ⟨x, hx⟩ : ∃ x, T[0]? = some x := ⟨_, List.getElem?_eq_getElem (by omega)⟩
   unfold len0
   rw [List.getD_eq_getElem?_getD, hx]
   exact hTm x (List.mem_of_getElem? hx)
  unfold goodL
  rw [List.all_eq_true]
  intro y hy
  rw [h0, hTm y hy]
  unfold evB
  rw [hTm y hy, hS]
  simp
 have hfm : ∀ r, r ∈ (T.take K).map Prod.snd → r.length = S := fun r hr => by
  obtain ⟨x, hx, rfl⟩ := List.mem_map.1 hr
  exact hTm x (List.mem_of_mem_take hx)
 have hfl : ((T.take K).map Prod.snd).length = K := by rw [List.length_map, List.length_take]; omega
 have hsm : amz.small ((T.take K).map Prod.snd) = true := by
  simp only [amz.small, Bool.and_eq_true, decide_eq_true_eq, List.all_eq_true]
  exact ⟨by omega, fun r hr => by rw [hfm r hr]; exact hS2⟩
 have hl := data_l_ev (pbits p) S hS2 hS ((T.take K).map Prod.snd) (by omega) (by omega) hfm ((invF (pbits p) (subM p K M (akz.is K T))).1.map (·.drop K)) [] (fun c hc => by rw [f3 c hc, hfl])
 rw [f2, List.nil_append] at hl
 refine Ev.congr (fun k => ?_) hl
 unfold akz.f
 rw [fine_true p K M _ hmay (by omega) hsl, Option.bind_some, if_pos rfl, if_pos (by omega), hth, Int.toNat_natCast, Int.toNat_natCast, if_neg (by omega), if_pos hgood]
 unfold akz.g
 rw [if_neg (by omega), if_pos hsm]
theorem reb_any (p : Int) (K M S : Nat) (hmay : aiz.f p (K : Int) (M : Int) = some true) (hS : S % wN (pbits p) = 0) (hS2 : S ≤ 1000000) (data : List (List Int)) (hK : data.length = K) (hD : isBL data S) (hv : List Bool) (hvl : hv.length = K + M) (hc : K ≤ trueN hv) (sp : List Int) (hsp : sp.length ≤ 1000000) :
  Ev (fun k => aGz.f k p (K : Int) (M : Int) (spL sp (data ++ parV S p K M data) hv) hv) (data ++ parV S p K M data, 0) := by
 obtain ⟨p1, p2, k1, k2, m1, m2⟩ := boz hmay
 have hpl := c2z S p K M data hmay
 have hpb := ekz p K M S data hS hD
 have hLl : (data ++ parV S p K M data).length = K + M := by rw [List.length_append, hK, hpl]
 have hLb : ∀ r, r ∈ data ++ parV S p K M data → r.length = S := fun r hr => by
  rcases List.mem_append.1 hr with hr | hr
  ·exact (hD r hr).1
  ·exact (hpb r hr).1
 have hsl : (spL sp (data ++ parV S p K M data) hv).length = K + M := by rw [spL_length _ _ _ (by omega), hLl]
 have hth : thereF 0 (spL sp (data ++ parV S p K M data) hv) hv = thereF 0 (data ++ parV S p K M data) hv := dYz sp 0 _ hv (by omega)
 have hset : setAll (thereF 0 (data ++ parV S p K M data) hv) (data ++ parV S p K M data) = data ++ parV S p K M data := setAll_same _ _ (fun x hx => by
  have := (dUz 0 _ hv x hx).2
  rwa [Nat.sub_zero] at this)
 have hsm : amz.small (spL sp (data ++ parV S p K M data) hv) = true := by
  simp only [amz.small, Bool.and_eq_true, decide_eq_true_eq, List.all_eq_true]
  refine ⟨by omega, fun r hr => ?_⟩
  rcases spL_mem sp _ hv r hr with hr | rfl
  ·rw [hLb r hr]; exact hS2
  ·exact hsp
 have h1 := data_any p K M S hmay hS hS2 data hK hD hv hvl hc sp
 have h2 := par_ev p K M S data hmay hK hS2 hS (fun r hr => (hD r hr).1)
 unfold aGz.f
 refine Ev.bind h1 (Ev.congr (fun k => by rw [if_pos rfl]) (Ev.bind h2 (Ev.congr (fun k => ?_) (Ev.now _))))
 show aGz.g (spL sp (data ++ parV S p K M data) hv) hv data (parV S p K M data) 0 = _
 unfold aGz.g
 rw [if_pos rfl, if_pos (by omega), if_pos (by omega), if_pos ⟨by omega, by omega, by omega⟩, if_pos hsm, hth, hset]
theorem same_ev (l : List (List Int)) (hl : l.length ≤ 1000000) : Ev (fun k => ajz.f k l l) true := by
 have key : ∀ (m i : Nat), i + m = l.length → Ev (fun k => ajz.l0 k l l (i : Int)) true := by
  intro m
  induction m with
  | zero =>
   intro i hi
   refine Ev.step (f := fun _ => some true) (fun k => ?_) (Ev.now _)
   rw [ajz.l0, if_neg (by omega)]
  | succ m ih =>
   intro i hi
   refine Ev.step (f := fun k => ajz.l0 k l l ((i + 1 : Nat) : Int)) (fun k => ?_) (ih (i + 1) (by omega))
   rw [ajz.l0, if_pos (by omega), if_pos (by omega), if_pos (by omega), if_pos rfl, bHz (by omega)]
 exact Ev.congr (fun k => by rw [ajz.f, if_pos rfl]; rfl) (key l.length 0 (by omega))
theorem u8_wf {x : Int} (h : (Lit.int .u8 x).wf = true) : 0 ≤ x ∧ x ≤ 255 := by
 simp [Lit.wf, IntKind.has] at h
 have h1 : IntKind.min .u8 = 0 := rfl
 have h2 : IntKind.max .u8 = 255 := rfl
 omega
end Go.Proofs.YtpdakdcmahlghaaGreat.XCo
end
