-- Joined by this work's own program (wip/tools/bundle.py) out of its texts: what this claim uses of them. Not trusted: Lean checks it.
import Derived.Test.YtelcllhibpnneaaGreatBCodecVerifies11
section
namespace Go.Proofs.YtelcllhibpnneaaGreat.XCo
open Go.RowKit Go.Proofs.YtelcllhibpnneaaGreatW.PrintWords Go.Proofs.YtelcllhibpnneaaGreatW.PrintLast Go.Proofs.YtelcllhibpnneaaGreatW.PrintMore
attribute [local go_sem] aGz aHz aMz aNz aCz aDz aIz aJz
set_option linter.unusedVariables false
set_option linter.unusedSimpArgs false
def wN (wb : Int) : Nat := if wb = 8 then 1 else 2
def wTo (n : Nat) (b : List Int) : Nat → List Int
 | 0 => List.replicate (b.length / n) 0
 | i + 1 => if i % n = 0 then (wTo n b i).set (i / n) (wrap64 (b.getD i 0)) else (wTo n b i).set (i / n) (wrap64 ((wTo n b i).getD (i / n) 0 + wrap64 (256 * wrap64 (b.getD i 0))))
def wordsF (wb : Int) (b : List Int) : List Int := wTo (wN wb) b b.length
theorem cRz (n : Nat) (b : List Int) : ∀ i, (wTo n b i).length = b.length / n
 | 0 => List.length_replicate
 | i + 1 => by unfold wTo; split <;> rw [List.length_set, cRz n b i]
set_option maxRecDepth 100000 in
set_option maxHeartbeats 1000000 in
theorem rwidth.calls (g : Nat) (wb p : Int) (S : Nat → Prop) (W : World) (hw : wb = 8 ∨ wb = 16) (hF : Fd W g wb p S) :
  Calls Tryz.prog 139 #[.pointer (some ⟨g, 0, none⟩)] W fun e w' => e = .returned (.int .i64 (wN wb : Nat)) ∧ Drawn0 W w' := by
 have HF := Aside0.mk hF
 clear hF
 rcases hw with rfl | rfl
 all_goals
  go_enter Tryz.func139, Tryz.ntmps139
  go_wp2_with fail
  refine (gf_Bits.calls g _ p S _ HF.out).mono ?_
  rintro e w1 ⟨rfl, m1, rfl⟩
  go_wp2
  go_ret
  exact ⟨by simp [wN], Drawn0.step (Drawn0.refl _) _⟩
set_option maxRecDepth 100000 in
set_option maxHeartbeats 1000000 in
theorem rin.calls (g : Nat) (wb p a : Int) (S : Nat → Prop) (W : World) (hw : wb = 8 ∨ wb = 16) (hF : Fd W g wb p S) :
  Calls Tryz.prog 94 #[.pointer (some ⟨g, 0, none⟩), .int .i64 a] W fun e w' => e = .returned (.bool (inF wb a)) ∧ Drawn0 W w' := by
 have HF := Aside0.mk hF
 have HW := Aside0.mk hw
 clear hF hw
 by_cases h : 0 ≤ a
 ·have h1 : decide (0 ≤ a) = true := decide_eq_true h
  go_enter Tryz.func94, Tryz.ntmps94
  go_wp2_with fail
  refine (cXz.calls g _ p S _ HF.out HW.out).mono ?_
  rintro e w1 ⟨rfl, m1, rfl⟩
  go_wp2
  go_ret
  exact ⟨by simp [inF, h], Drawn0.step (Drawn0.refl _) _⟩
 ·have h1 : decide (0 ≤ a) = false := decide_eq_false h
  go_enter Tryz.func94, Tryz.ntmps94
  go_wp2
  go_ret
  exact ⟨by rw [show inF wb a = false by unfold inF; rw [h1]; rfl]; rfl, Drawn0.refl _⟩
set_option maxRecDepth 100000 in
set_option maxHeartbeats 2000000 in
theorem rWords.bad (g : Nat) (wb p : Int) (S : Nat → Prop) (A : Option Addr) (c : Nat) (b : List Int) (W : World) (hw : wb = 8 ∨ wb = 16) (hF : Fd W g wb p S) (hl : b.length ≤ 1000000) (hd : b.length % wN wb ≠ 0) :
  Calls Tryz.prog 93 #[.pointer (some ⟨g, 0, none⟩), .slice A b.length c] W fun e w' => e = .returned (.tuple #[.slice none 0 0, .int .i64 1]) ∧ Drawn0 W w' := by
 have HC := Aside0.mk (rwidth.calls g wb p S W hw hF)
 rcases hw with rfl | rfl
 ·simp [wN] at hd
  exact absurd (Nat.mod_one _) hd
 ·have hd1 : ((b.length : Int) % 2 == 0) = false := by simp [wN] at hd; simp; omega
  have hd2 : ((b.length : Int) % 2 != 0) = true := by simp [wN] at hd; simp; omega
  generalize b.length = n at hl hd hd1 hd2 ⊢
  have HN := Aside0.mk (show wN 16 = 2 from rfl)
  rw [HN.out] at HC
  clear hF hd
  go_enter Tryz.func93, Tryz.ntmps93
  go_wp2_with fail
  refine HC.out.mono ?_
  rintro e w1 ⟨rfl, m1, rfl⟩
  go_wp2
  go_ret2
  exact ⟨rfl, Drawn0.step (Drawn0.refl _) _⟩
theorem bXz {W w : World} {n lb : Nat} (h : Below n W w) (hl : n ≤ lb) (j : Nat) (u : Value) : Below n W (w.setCell ⟨lb, j, none⟩ u) :=
 ⟨h.os, h.tape, h.output, by simpa using h.size, fun i hi => (Below.heap_setCell w ⟨lb, j, none⟩ u i (by show i ≠ lb; omega)).trans (h.block i hi)⟩
def WordsOk (W : World) (l : List Int) (e : Ending) (w' : World) : Prop := ∃ lb, e = .returned (.tuple #[.slice (some ⟨lb, 0, none⟩) l.length l.length, .int .i64 0]) ∧ w'.heap[lb]? = some (.cells (nums .i64 l).toArray 3 (0, 0)) ∧ W.heap.size ≤ lb ∧ Below W.heap.size W w'
set_option maxRecDepth 100000 in
set_option maxHeartbeats 2000000 in
theorem rWords.ok8 (g : Nat) (p : Int) (S : Nat → Prop) (A : Option Addr) (c : Nat) (b : List Int) (W : World) (hF : Fd W g 8 p S) (hb : Kd.C (Kd.int .u8) W A b.length b) (hl : b.length ≤ 1000000) :
  Calls Tryz.prog 93 #[.pointer (some ⟨g, 0, none⟩), .slice A b.length c] W (WordsOk W (wordsF 8 b)) := by
 have HC := Aside0.mk (rwidth.calls g 8 p S W (.inl rfl) hF)
 have HN := Aside0.mk (show wN 8 = 1 from rfl)
 rw [HN.out] at HC
 have HB := Aside0.mk hb
 have HT := Aside0.mk (show ∀ i, (wTo 1 b i).length = b.length from fun i => by rw [cRz, Nat.div_one])
 obtain ⟨res, hres⟩ : ∃ r, wordsF 8 b = r := ⟨_, rfl⟩
 have HRES := Aside0.mk (show wTo 1 b b.length = res from hres)
 rw [hres]
 have HRL := Aside0.mk (show res.length = b.length by rw [← HRES.out, HT.out])
 obtain ⟨n, hn⟩ : ∃ n, b.length = n := ⟨_, rfl⟩
 have HLEN := Aside0.mk hn
 rw [hn] at HB HT HRES HRL hl ⊢
 have hmk := dnz n hl
 clear hF hb hres hn
 go_enter Tryz.func93, Tryz.ntmps93
 go_wp2_with fail
 refine HC.out.mono ?_
 rintro e w1 ⟨rfl, m1, rfl⟩
 go_wp2
 have HB1 := Aside0.mk (show Below W.heap.size W ((W.drewN m1).alloc (.cells (nums .i64 (List.replicate n 0)).toArray 3)) from acz (akz (Below.refl _ _) _) _)
 have HX1 := Aside0.mk (show ((W.drewN m1).alloc (.cells (nums .i64 (List.replicate n 0)).toArray 3)).heap[W.heap.size]? = some (.cells (nums .i64 (wTo 1 b 0)).toArray 3 (0, 0)) by
  have : wTo 1 b 0 = List.replicate n 0 := by rw [wTo, Nat.div_one, HLEN.out]
  rw [this]; exact heap_alloc_new _ _)
 obtain ⟨lb, hlb⟩ : ∃ lb, lb = W.heap.size := ⟨_, rfl⟩
 have HLB := Aside0.mk (show W.heap.size ≤ lb by omega)
 rw [← hlb] at HX1 ⊢
 clear hmk hlb HC
 generalize (W.drewN m1).alloc (.cells (nums .i64 (List.replicate n 0)).toArray 3) = w2 at HB1 HX1 ⊢
 have HLI := Aside0.mk (show lb < 9223372036854775807 → True from fun _ => trivial)
 go_loopw [28] (fun iv wr => ∃ k : Nat, k ≤ n ∧ iv = .int .i64 (k : Int) ∧ Aside0 (wr.heap[lb]? = some (.cells (nums .i64 (wTo 1 b k)).toArray 3 (0, 0))) ∧ Aside0 (Below W.heap.size W wr)) (fun iv _ => n - (intOf iv).toNat)
 case atStart => exact ⟨0, Nat.zero_le _, rfl, HX1, HB1⟩
 clear HX1 HB1
 obtain ⟨w3, rfl⟩ : ∃ w3, w3 = wr := ⟨_, rfl⟩
 obtain ⟨k, hk, rfl, HX, HBE⟩ := hrel
 by_cases hlt : k < n
 ·obtain ⟨x, hx⟩ : ∃ x, b[k]? = some x := ⟨_, List.getElem?_eq_getElem (by have := HLEN.out; omega)⟩
  obtain ⟨ad, rfl, hc1⟩ := bBz (Kd.auz (HLEN.out.symm ▸ HB.out) HBE.out) k x hx
  obtain ⟨y, hy⟩ : ∃ y, (wTo 1 b k)[k]? = some y := ⟨_, List.getElem?_eq_getElem (by rw [HT.out]; omega)⟩
  have hcy : w3.cell? ⟨lb, k, none⟩ = some (.int .i64 y) := (aaz HX.out k).trans (cxz .i64 _ _ _ hy)
  have hfy := aFz HX.out k
  have HST := Aside0.mk (show (wTo 1 b k).set k (wrap64 x) = wTo 1 b (k + 1) by
   have : b.getD k 0 = x := by rw [List.getD_eq_getElem?_getD, hx]; rfl
   rw [wTo, if_pos (Nat.mod_one _), Nat.div_one, this])
  have k1 : (0 : Int) ≤ (k : Int) := by omega
  have k2 : (k : Int) < (n : Int) := by omega
  clear hx hy
  go_wp2
  refine ⟨⟨k + 1, by omega, by go_num, ⟨cbz HX.out k _ HST.out⟩, ⟨bXz HBE.out HLB.out _ _⟩⟩, by simp [intOf]; omega⟩
 ·obtain rfl : k = n := by omega
  go_wp2
  go_ret2
  exact ⟨lb, by rw [HRL.out]; rfl, by rw [← HRES.out]; exact HX.out, HLB.out, HBE.out⟩
set_option maxRecDepth 100000 in
set_option maxHeartbeats 2000000 in
theorem rWords.ok16 (g : Nat) (p : Int) (S : Nat → Prop) (A : Option Addr) (c : Nat) (b : List Int) (W : World) (hF : Fd W g 16 p S) (hb : Kd.C (Kd.int .u8) W A b.length b) (hl : b.length ≤ 1000000) (hd : b.length % 2 = 0) :
  Calls Tryz.prog 93 #[.pointer (some ⟨g, 0, none⟩), .slice A b.length c] W (WordsOk W (wordsF 16 b)) := by
 have HC := Aside0.mk (rwidth.calls g 16 p S W (.inr rfl) hF)
 have HN := Aside0.mk (show wN 16 = 2 from rfl)
 rw [HN.out] at HC
 have HB := Aside0.mk hb
 have HT := Aside0.mk (show ∀ i, (wTo 2 b i).length = b.length / 2 from fun i => cRz _ _ _)
 obtain ⟨res, hres⟩ : ∃ r, wordsF 16 b = r := ⟨_, rfl⟩
 have HRES := Aside0.mk (show wTo 2 b b.length = res from hres)
 rw [hres]
 have HRL := Aside0.mk (show res.length = b.length / 2 by rw [← HRES.out, HT.out])
 obtain ⟨n, hn⟩ : ∃ n, b.length = n := ⟨_, rfl⟩
 have HLEN := Aside0.mk hn
 rw [hn] at HB HT HRES HRL hl ⊢
 obtain ⟨q, hq⟩ : ∃ q, n / 2 = q := ⟨_, rfl⟩
 rw [hq] at HRL HT
 have HQ := Aside0.mk hq
 have d1 : ((n : Int) % 2 != 0) = false := by rw [hn] at hd; simp; omega
 have d2 : (n : Int) / 2 = (q : Int) := by omega
 have HD := Aside0.mk (show n = 2 * q by rw [hn] at hd; omega)
 have hmk := dnz q (by omega)
 clear hF hb hres hn hq hd
 go_enter Tryz.func93, Tryz.ntmps93
 go_wp2_with fail
 refine HC.out.mono ?_
 rintro e w1 ⟨rfl, m1, rfl⟩
 go_wp2
 have HB1 := Aside0.mk (show Below W.heap.size W ((W.drewN m1).alloc (.cells (nums .i64 (List.replicate q 0)).toArray 3)) from acz (akz (Below.refl _ _) _) _)
 have HX1 := Aside0.mk (show ((W.drewN m1).alloc (.cells (nums .i64 (List.replicate q 0)).toArray 3)).heap[W.heap.size]? = some (.cells (nums .i64 (wTo 2 b 0)).toArray 3 (0, 0)) by
  have : wTo 2 b 0 = List.replicate q 0 := by rw [wTo, HLEN.out, HQ.out]
  rw [this]; exact heap_alloc_new _ _)
 obtain ⟨lb, hlb⟩ : ∃ lb, lb = W.heap.size := ⟨_, rfl⟩
 have HLB := Aside0.mk (show W.heap.size ≤ lb by omega)
 rw [← hlb] at HX1 ⊢
 clear hmk hlb HC d1 d2
 generalize (W.drewN m1).alloc (.cells (nums .i64 (List.replicate q 0)).toArray 3) = w2 at HB1 HX1 ⊢
 have HLI := Aside0.mk (show lb < 9223372036854775807 → True from fun _ => trivial)
 go_loopw [28] (fun iv wr => ∃ k : Nat, k ≤ n ∧ iv = .int .i64 (k : Int) ∧ Aside0 (wr.heap[lb]? = some (.cells (nums .i64 (wTo 2 b k)).toArray 3 (0, 0))) ∧ Aside0 (Below W.heap.size W wr)) (fun iv _ => n - (intOf iv).toNat)
 case atStart => exact ⟨0, Nat.zero_le _, rfl, HX1, HB1⟩
 clear HX1 HB1
 obtain ⟨w3, rfl⟩ : ∃ w3, w3 = wr := ⟨_, rfl⟩
 obtain ⟨k, hk, rfl, HX, HBE⟩ := hrel
 by_cases hlt : k < n
 ·obtain ⟨x, hx⟩ : ∃ x, b[k]? = some x := ⟨_, List.getElem?_eq_getElem (by have := HLEN.out; omega)⟩
  obtain ⟨ad, rfl, hc1⟩ := bBz (Kd.auz (HLEN.out.symm ▸ HB.out) HBE.out) k x hx
  obtain ⟨j, hj⟩ : ∃ j, k / 2 = j := ⟨_, rfl⟩
  have hjq : j < q := by have := HD.out; omega
  obtain ⟨y, hy⟩ : ∃ y, (wTo 2 b k)[j]? = some y := ⟨_, List.getElem?_eq_getElem (by rw [HT.out]; exact hjq)⟩
  have hcy : w3.cell? ⟨lb, j, none⟩ = some (.int .i64 y) := (aaz HX.out j).trans (cxz .i64 _ _ _ hy)
  have hfy := aFz HX.out j
  have hgx : b.getD k 0 = x := by rw [List.getD_eq_getElem?_getD, hx]; rfl
  have hgy : (wTo 2 b k).getD j 0 = y := by rw [List.getD_eq_getElem?_getD, hy]; rfl
  have d3 : (k : Int) / 2 = (j : Int) := by omega
  have k1 : (0 : Int) ≤ (k : Int) := by omega
  have k2 : (k : Int) < (n : Int) := by omega
  have j1 : (0 : Int) ≤ (j : Int) := by omega
  have j2 : (j : Int) < (q : Int) := by omega
  by_cases h2 : k % 2 = 0
  ·have HST := Aside0.mk (show (wTo 2 b k).set j (wrap64 x) = wTo 2 b (k + 1) by
    rw [wTo, if_pos h2, hj, hgx])
   have d4 : ((k : Int) % 2 == 0) = true := by simp; omega
   clear hx hy hj hgx hgy h2
   go_wp2
   refine ⟨⟨k + 1, by omega, by go_num, ⟨cbz HX.out j _ HST.out⟩, ⟨bXz HBE.out HLB.out _ _⟩⟩, by simp [intOf]; omega⟩
  ·have HST := Aside0.mk (show (wTo 2 b k).set j (wrap64 (y + wrap64 (256 * wrap64 x))) = wTo 2 b (k + 1) by
    rw [wTo, if_neg h2, hj, hgx, hgy])
   have d4 : ((k : Int) % 2 == 0) = false := by simp; omega
   clear hx hy hj hgx hgy h2
   go_wp2
   refine ⟨⟨k + 1, by omega, by go_num, ⟨cbz HX.out j _ HST.out⟩, ⟨bXz HBE.out HLB.out _ _⟩⟩, by simp [intOf]; omega⟩
 ·obtain rfl : k = n := by omega
  go_wp2
  go_ret2
  exact ⟨lb, by rw [HRL.out]; rfl, by rw [← HRES.out]; exact HX.out, HLB.out, HBE.out⟩
def byteF (wb a : Int) : List Int := if wb = 8 then [a % 256] else [a % 256, a / 256 % 256]
def bytesF (wb : Int) (l : List Int) : List Int := l.flatMap (byteF wb)
theorem bytesF_take (wb : Int) (l : List Int) (k : Nat) (a : Int) (h : l[k]? = some a) : bytesF wb (l.take (k + 1)) = bytesF wb (l.take k) ++ byteF wb a := by
 unfold bytesF
 rw [List.take_add_one, h, List.flatMap_append]; simp
theorem dMz (wb : Int) : ∀ l : List Int, (bytesF wb l).length ≤ 2 * l.length
 | [] => by simp [bytesF]
 | a :: l => by
  have h1 := dMz wb l
  have h2 : (byteF wb a).length ≤ 2 := by unfold byteF; split <;> simp
  have h3 : bytesF wb (a :: l) = byteF wb a ++ bytesF wb l := by unfold bytesF; rw [List.flatMap_cons]
  rw [h3, List.length_append, List.length_cons]
  omega
set_option maxRecDepth 100000 in
set_option maxHeartbeats 4000000 in
theorem rBytes.calls (g : Nat) (wb p : Int) (S : Nat → Prop) (A : Option Addr) (c : Nat) (l : List Int) (W : World) (hw : wb = 8 ∨ wb = 16) (hF : Fd W g wb p S) (hl : Kd.C (Kd.int .i64) W A l.length l) (hlen : l.length ≤ 1000000) (hin : ∀ a, a ∈ l → 0 ≤ a ∧ a < fsize wb) :
  Calls Tryz.prog 96 #[.pointer (some ⟨g, 0, none⟩), .slice A l.length c] W fun e w' => ∃ v, e = .returned (.tuple #[v, .int .i64 0]) ∧ (Kd.int .u8).R 5 w' W.heap.size (fun _ => True) v (bytesF wb l) ∧ Below W.heap.size W w' := by
 have HF := Aside0.mk hF
 have HW := Aside0.mk hw
 have HL := Aside0.mk hl
 have HIN := Aside0.mk hin
 obtain ⟨n, hn⟩ : ∃ n, l.length = n := ⟨_, rfl⟩
 have HLEN := Aside0.mk hn
 rw [hn] at hlen HL ⊢
 clear hF hw hl hin hn
 go_enter Tryz.func96, Tryz.ntmps96
 go_wp2
 go_loopw [6, 13] (fun v iv wr => ∃ k : Nat, k ≤ n ∧ iv = .int .i64 (k : Int) ∧ Aside0 ((Kd.int .u8).R 5 wr W.heap.size (fun _ => True) v (bytesF wb (l.take k))) ∧ Aside0 (Below W.heap.size W wr)) (fun _ iv _ => n - (intOf iv).toNat)
 case atStart => exact ⟨0, Nat.zero_le _, rfl, ⟨Kd.R_nil _ _ _ _ _⟩, ⟨Below.refl _ _⟩⟩
 obtain ⟨w3, rfl⟩ : ∃ w3, w3 = wr := ⟨_, rfl⟩
 obtain ⟨k, hk, rfl, HR, HB⟩ := hrel
 by_cases hlt : k < n
 ·obtain ⟨a, ha⟩ : ∃ x, l[k]? = some x := ⟨_, List.getElem?_eq_getElem (by have := HLEN.out; omega)⟩
  obtain ⟨ad, rfl, hc1⟩ := bBz (Kd.auz (HLEN.out.symm ▸ HL.out) HB.out) k a ha
  have hr := HIN.out a (List.mem_of_getElem? ha)
  have HT := Aside0.mk (bytesF_take wb l k a ha)
  have HLL := Aside0.mk (show (bytesF wb (l.take k)).length ≤ 3000000 by
   have h1 := dMz wb (l.take k)
   have h2 := List.length_take_le k l
   omega)
  have hr1 := hr.1
  have hr2 : a < 65536 := by have := hr.2; rcases HW.out with rfl | rfl <;> simp [fsize] at this <;> omega
  have HI := Aside0.mk (show inF wb a = true by unfold inF; rw [decide_eq_true hr.1, decide_eq_true hr.2]; rfl)
  have HRI := Aside0.mk (rin.calls g wb p a S w3 HW.out (HF.out.below HB.out))
  rw [HI.out] at HRI
  have HBI := Aside0.mk (fun w' (h : Below W.heap.size W w') => gf_Bits.calls g wb p S w' (HF.out.below h))
  have HZ := Aside0.mk (show W.heap.size ≤ w3.heap.size from HB.out.size)
  generalize bytesF wb (l.take k) = pre at HR HT HLL
  clear ha hr
  go_wp2_with fail
  refine HRI.out.mono ?_
  rintro e w4 ⟨rfl, m4, rfl⟩
  have HR4 := Aside0.mk (Kd.bQz HR.out m4)
  have HB4 := Aside0.mk (akz HB.out m4)
  have HZ4 := Aside0.mk (show W.heap.size ≤ (w3.drewN m4).heap.size from HZ.out)
  generalize w3.drewN m4 = w4 at HR4 HB4 HZ4 ⊢
  clear HRI
  have e1 : 0 ≤ a % 256 := by omega
  have e2 : 0 ≤ a / 256 := by omega
  have HTW := Aside0.mk (show byteF 8 a = [a % 256] ∧ byteF 16 a = [a % 256] ++ [a / 256] from ⟨by simp [byteF], by simp [byteF]; omega⟩)
  have HL2 := Aside0.mk (show (pre ++ [a % 256]).length ≤ 3000001 by have := HLL.out; simp; omega)
  rcases HW.out with rfl | rfl
  ·rw [HTW.out.1] at HT
   go_wp2_with ((with_reducible refine axz (b := .append) (xs := #[.tmp 21, .tmp 24]) rfl ?_); go_must (at_builtin; refine Kd.bVz (Kd.int .u8) (w0 := w4) W.heap.size rfl (.tmp 21) (.tmp 24) 34 5 (.int .u8 0) 1 rfl Tryz.underlying34 kr_ rfl (by decide) (by decide) _ _ (a % 256) [.int .u8 (a % 256)] (fun _ => True) (fun _ => False) rfl rfl rfl (fun _ h => h.elim) (fun _ _ => trivial) HR4.out (Below.refl _ _) HZ4.out ?aL ?_; (case aL => have := HLL.out; omega)); intro v5 w5 ho hb hg hat; have HR5 := Aside0.mk ho; have HB5 := Aside0.mk hb; clear ho hb hg hat; skip)
   have HB6 := Aside0.mk (HB4.out.trans HB5.out)
   go_wp2_with fail
   refine (HBI.out w5 HB6.out).mono ?_
   rintro e w7 ⟨rfl, m7, rfl⟩
   go_wp2
   go_roundw
   case rel => exact ⟨k + 1, by omega, by go_num, ⟨by rw [HT.out]; exact Kd.bQz HR5.out m7⟩, ⟨akz HB6.out m7⟩⟩
   case measure => simp [intOf]; omega
  ·rw [HTW.out.2, ← List.append_assoc] at HT
   go_wp2_with ((with_reducible refine axz (b := .append) (xs := #[.tmp 21, .tmp 24]) rfl ?_); go_must (at_builtin; refine Kd.bVz (Kd.int .u8) (w0 := w4) W.heap.size rfl (.tmp 21) (.tmp 24) 34 5 (.int .u8 0) 1 rfl Tryz.underlying34 kr_ rfl (by decide) (by decide) _ _ (a % 256) [.int .u8 (a % 256)] (fun _ => True) (fun _ => False) rfl rfl rfl (fun _ h => h.elim) (fun _ _ => trivial) HR4.out (Below.refl _ _) HZ4.out ?aL ?_; (case aL => have := HLL.out; omega)); intro v5 w5 ho hb hg hat; have HR5 := Aside0.mk ho; have HB5 := Aside0.mk hb; clear ho hb hg hat; skip)
   have HB6 := Aside0.mk (HB4.out.trans HB5.out)
   go_wp2_with fail
   refine (HBI.out w5 HB6.out).mono ?_
   rintro e w7 ⟨rfl, m7, rfl⟩
   have HR8 := Aside0.mk (Kd.bQz HR5.out m7)
   have HB8 := Aside0.mk (akz HB6.out m7)
   have HZ8 := Aside0.mk (show W.heap.size ≤ (w5.drewN m7).heap.size from HB6.out.size)
   generalize w5.drewN m7 = w8 at HR8 HB8 HZ8 ⊢
   generalize pre ++ [a % 256] = pre2 at HR8 HL2 HT
   clear HR5 HB5
   go_wp2_with ((with_reducible refine axz (b := .append) (xs := #[.tmp 29, .tmp 33]) rfl ?_); go_must (at_builtin; refine Kd.bVz (Kd.int .u8) (w0 := w8) W.heap.size rfl (.tmp 29) (.tmp 33) 34 5 (.int .u8 0) 1 rfl Tryz.underlying34 kr_ rfl (by decide) (by decide) _ _ (a / 256) [.int .u8 (a / 256)] (fun _ => True) (fun _ => False) rfl rfl rfl (fun _ h => h.elim) (fun _ _ => trivial) HR8.out (Below.refl _ _) HZ8.out ?aL ?_; (case aL => have := HL2.out; omega)); intro v9 w9 ho hb hg hat; have HR9 := Aside0.mk ho; have HB9 := Aside0.mk hb; clear ho hb hg hat; skip)
   go_roundw
   case rel => exact ⟨k + 1, by omega, by go_num, ⟨by rw [HT.out]; exact HR9.out⟩, ⟨HB8.out.trans HB9.out⟩⟩
   case measure => simp [intOf]; omega
 ·obtain rfl : k = n := by omega
  have HE := Aside0.mk (show l.take k = l from List.take_of_length_le (by have := HLEN.out; omega))
  rw [HE.out] at HR
  go_wp2
  go_ret2
  exact ⟨_, rfl, HR.out, HB.out⟩
def mapTo (f : Int → Int) (row : List Int) (j : Nat) : List Int := (row.take j).map f ++ row.drop j
theorem mapTo_zero (f : Int → Int) (row : List Int) : mapTo f row 0 = row := by simp [mapTo]
theorem mapTo_full (f : Int → Int) (row : List Int) : mapTo f row row.length = row.map f := by simp [mapTo]
theorem mapTo_at (f : Int → Int) (row : List Int) (j : Nat) (x : Int) (h : row[j]? = some x) : (mapTo f row j)[j]? = some x := by
 have hi := (List.getElem?_eq_some_iff.1 h).1
 unfold mapTo
 rw [List.getElem?_append_right (by simp; omega)]
 simp only [List.length_map, List.length_take, List.getElem?_drop]
 rw [show j + (j - min j row.length) = j by omega]
 exact h
theorem mapTo_step (f : Int → Int) (row : List Int) (j : Nat) (x : Int) (h : row[j]? = some x) : (mapTo f row j).set j (f x) = mapTo f row (j + 1) := by
 obtain ⟨hi, e⟩ := List.getElem?_eq_some_iff.1 h
 unfold mapTo
 rw [List.set_append_right _ _ (by simp; omega), List.length_map, List.length_take, show j - min j row.length = 0 by omega, List.drop_eq_getElem_cons hi, List.set_cons_zero, List.take_add_one, h, List.map_append, List.append_assoc]
 rfl
def mulB (wb c : Int) (b : List Int) : List Int := bytesF wb ((wordsF wb b).map (gmul wb c))
theorem dNz (wb : Int) (b : List Int) : (wordsF wb b).length = b.length / wN wb := cRz _ _ _
theorem rWords.ok (g : Nat) (wb p : Int) (S : Nat → Prop) (A : Option Addr) (c : Nat) (b : List Int) (W : World) (hw : wb = 8 ∨ wb = 16) (hF : Fd W g wb p S) (hb : Kd.C (Kd.int .u8) W A b.length b) (hl : b.length ≤ 1000000) (hd : b.length % wN wb = 0) :
  Calls Tryz.prog 93 #[.pointer (some ⟨g, 0, none⟩), .slice A b.length c] W (WordsOk W (wordsF wb b)) := by
 rcases hw with rfl | rfl
 ·exact rWords.ok8 g p S A c b W hF hb hl
 ·exact rWords.ok16 g p S A c b W hF hb hl hd
set_option maxRecDepth 100000 in
set_option maxHeartbeats 2000000 in
theorem rMul.badw (g : Nat) (wb p c : Int) (S : Nat → Prop) (A : Option Addr) (cc : Nat) (b : List Int) (W : World) (hw : wb = 8 ∨ wb = 16) (hF : Fd W g wb p S) (hl : b.length ≤ 1000000) (hd : b.length % wN wb ≠ 0) :
  Calls Tryz.prog 61 #[.pointer (some ⟨g, 0, none⟩), .int .i64 c, .slice A b.length cc] W fun e w' => e = .returned (.tuple #[.slice none 0 0, .int .i64 1]) ∧ Drawn0 W w' := by
 have HC := Aside0.mk (rWords.bad g wb p S A cc b W hw hF hl hd)
 clear hw hF hl hd
 go_enter Tryz.func61, Tryz.ntmps61
 go_wp2_with fail
 refine HC.out.mono ?_
 rintro e w1 ⟨rfl, m1, rfl⟩
 go_wp2
 go_ret2
 exact ⟨rfl, Drawn0.step (Drawn0.refl _) _⟩
set_option maxRecDepth 100000 in
set_option maxHeartbeats 4000000 in
theorem rMul.ok (g : Nat) (wb c : Int) (S : Nat → Prop) (A : Option Addr) (cc : Nat) (b : List Int) (W : World) (hw : wb = 8 ∨ wb = 16) (hF : Fd W g wb (fpoly wb) S) (hS : ∀ k, S k → k < W.heap.size) (hb : Kd.C (Kd.int .u8) W A b.length b) (hl : b.length ≤ 1000000) (hd : b.length % wN wb = 0) (hc : inF wb c = true) :
  Calls Tryz.prog 61 #[.pointer (some ⟨g, 0, none⟩), .int .i64 c, .slice A b.length cc] W fun e w' => ∃ v, e = .returned (.tuple #[v, .int .i64 0]) ∧ (Kd.int .u8).R 5 w' W.heap.size (fun _ => True) v (mulB wb c b) ∧ Fd w' g wb (fpoly wb) S ∧ BB W w' g := by
 have HWD := Aside0.mk (rWords.ok g wb (fpoly wb) S A cc b W hw hF hb hl hd)
 have HF0 := Aside0.mk hF
 have HW := Aside0.mk hw
 have HS := Aside0.mk hS
 have HCI := Aside0.mk hc
 have hwl : (wordsF wb b).length ≤ 1000000 := by
  rw [dNz]; exact Nat.le_trans (Nat.div_le_self _ _) hl
 obtain ⟨res, hres⟩ : ∃ r, mulB wb c b = r := ⟨_, rfl⟩
 have HRES := Aside0.mk hres
 rw [hres]
 unfold mulB at HRES
 generalize wordsF wb b = l at HWD hwl HRES
 generalize b.length = bl at HWD ⊢
 clear hF hw hS hc hres hb hl hd
 obtain ⟨n, hn⟩ : ∃ n, l.length = n := ⟨_, rfl⟩
 have HLEN := Aside0.mk hn
 rw [hn] at hwl
 clear hn
 go_enter Tryz.func61, Tryz.ntmps61
 go_wp2_with fail
 refine HWD.out.mono ?_
 rintro e w1 ⟨lb, rfl, q1, q2, q3⟩
 rw [HLEN.out]
 have HX1 := Aside0.mk (show w1.heap[lb]? = some (.cells (nums .i64 (mapTo (gmul wb c) l 0)).toArray 3 (0, 0)) by rw [mapTo_zero]; exact q1)
 have HLB := Aside0.mk q2
 have HB1 := Aside0.mk (BB.of_below q3 g)
 have HF1 := Aside0.mk (show Fd w1 g wb (fpoly wb) (fun q => S q ∨ q = lb) from ((HF0.out.more).below q3).thin (fun q _ hs => hs.elim .inl (fun e => .inr (by omega))))
 have HGL := Aside0.mk (show lb ≠ g by have := HF0.out.lt; omega)
 have HRN := Aside0.mk (rin.calls g wb (fpoly wb) c (fun q => S q ∨ q = lb) w1 HW.out HF1.out)
 rw [HCI.out] at HRN
 clear q1 q2 q3 HWD HF0
 go_wp2_with fail
 refine HRN.out.mono ?_
 rintro e w2 ⟨rfl, m2, rfl⟩
 have HX2 := Aside0.mk (show (w1.drewN m2).heap[lb]? = some (.cells (nums .i64 (mapTo (gmul wb c) l 0)).toArray 3 (0, 0)) from HX1.out)
 have HB2 := Aside0.mk (HB1.out.drewN m2)
 have HF2 := Aside0.mk (HF1.out.drewN m2)
 generalize w1.drewN m2 = w2 at HX2 HB2 HF2 ⊢
 clear HX1 HB1 HF1 HRN
 go_wp2
 go_loopw [28] (fun iv wr => ∃ k : Nat, k ≤ n ∧ iv = .int .i64 (k : Int) ∧ Aside0 (wr.heap[lb]? = some (.cells (nums .i64 (mapTo (gmul wb c) l k)).toArray 3 (0, 0))) ∧ Aside0 (BB W wr g) ∧ Aside0 (Fd wr g wb (fpoly wb) (fun q => S q ∨ q = lb))) (fun iv _ => n - (intOf iv).toNat)
 case atStart => exact ⟨0, Nat.zero_le _, rfl, HX2, HB2, HF2⟩
 clear HX2 HB2 HF2
 obtain ⟨w3, rfl⟩ : ∃ w3, w3 = wr := ⟨_, rfl⟩
 obtain ⟨k, hk, rfl, HX, HB, HF⟩ := hrel
 by_cases hlt : k < n
 ·obtain ⟨x, hx⟩ : ∃ x, l[k]? = some x := ⟨_, List.getElem?_eq_getElem (by have := HLEN.out; omega)⟩
  have hcx : w3.cell? ⟨lb, k, none⟩ = some (.int .i64 x) := (aaz HX.out k).trans (cxz .i64 _ _ _ (mapTo_at _ _ _ _ hx))
  have HST := Aside0.mk (mapTo_step (gmul wb c) l k x hx)
  have HMU := Aside0.mk (bxz.calls g (fun q => S q ∨ q = lb) wb c x w3 HW.out HF.out (fun q hq => by
   rcases hq with hq | rfl
   ·exact Nat.lt_of_lt_of_le (HS.out q hq) HB.out.size
   ·exact awz HX.out))
  have HXB := Aside0.mk (show ∀ w4, BB w3 w4 g → w4.heap[lb]? = some (.cells (nums .i64 (mapTo (gmul wb c) l k)).toArray 3 (0, 0)) from fun w4 h => (h.block lb (awz HX.out) HGL.out).trans HX.out)
  have HAT := Aside0.mk (mapTo_at (gmul wb c) l k x hx)
  have k1 : (0 : Int) ≤ (k : Int) := by omega
  have k2 : (k : Int) < (n : Int) := by omega
  clear hx
  go_wp2_with fail
  refine HMU.out.mono ?_
  rintro e w4 ⟨rfl, f1, f2⟩
  have HX4 := Aside0.mk (HXB.out w4 f2)
  have hc4 : w4.cell? ⟨lb, k, none⟩ = some (.int .i64 x) := (aaz HX4.out k).trans (cxz .i64 _ _ _ HAT.out)
  have hf4 := aFz HX4.out k
  have HX5 := Aside0.mk (cbz HX4.out k (gmul wb c x) HST.out)
  have HB5 := Aside0.mk ((HB.out.trans f2).new HLB.out k (.int .i64 (gmul wb c x)))
  have HF5 := Aside0.mk (f1.set (q := ⟨lb, k, none⟩) (.inr rfl) (.int .i64 (gmul wb c x)))
  clear f1 f2 hcx HMU
  go_wp2
  go_roundw
  case rel => exact ⟨k + 1, by omega, by go_num, HX5, HB5, HF5⟩
  case measure => simp [intOf]; omega
 ·obtain rfl : k = n := by omega
  have HE := Aside0.mk (show mapTo (gmul wb c) l k = l.map (gmul wb c) by rw [← HLEN.out]; exact mapTo_full _ _)
  rw [HE.out] at HX
  have hC := C_nums HX.out (by simp; have := HLEN.out; omega)
  rw [List.length_map, HLEN.out] at hC
  have HBY := rBytes.calls g wb (fpoly wb) (fun q => S q ∨ q = lb) (some ⟨lb, 0, none⟩) k (l.map (gmul wb c)) w3 HW.out HF.out (by rw [List.length_map, HLEN.out]; exact hC) (by rw [List.length_map, HLEN.out]; omega) (fun a ha => by
   obtain ⟨y, -, rfl⟩ := List.mem_map.1 ha
   exact bdz HW.out _ _)
  rw [HRES.out, List.length_map, HLEN.out] at HBY
  have HBYS := Aside0.mk HBY
  clear hC HBY
  go_wp2_with fail
  refine HBYS.out.mono ?_
  rintro e w4 ⟨v, rfl, r1, r2⟩
  have R1 := Aside0.mk (Kd.bkz r1 HB.out.size)
  have R2 := Aside0.mk (HF.out.below r2)
  have R3 := Aside0.mk (HB.out.trans (BB.of_below r2 g))
  clear r1 r2
  go_wp2
  go_ret2
  exact ⟨_, rfl, R1.out, R2.out.thin (fun q _ h => .inl h), R3.out⟩
def evB (wb : Int) (b : List Int) : Bool := b.length % wN wb == 0
def dotB (K : Nat) (wb : Int) (c : List Int) (rows : List (List Int)) : Option (List Int × Int) := if rows.all (evB wb) = true then aoz.f K (List.zipWith (mulB wb) c rows) else some ([], 1)
theorem S_joinK {k : IntKind} {wq w2 : World} {g B e t gt : Nat} {gcs : Array Value} {u uv : Value} {xs : List (List Int)} {R : List Int} (HO : Kd.S (dM e k) t wq B (fun _ => True) u xs) (hg : wq.heap[g]? = some (.cells gcs gt (0, 0))) (ht : ∀ q, q ∈ t :: (dM e k).E → q ≠ gt) (hb : BB wq w2 g) (hR : (Kd.int k).R e w2 wq.heap.size (fun _ => True) uv R) (hB : B ≤ wq.heap.size) :
    Kd.S (dM e k) t w2 B (fun k' => True ∧ ¬ wq.heap.size ≤ k') u xs ∧ (dM e k).M w2 B (fun k' => wq.heap.size ≤ k') R [uv] ∧ (∀ k', wq.heap.size ≤ k' → True ∧ some k' ≠ u.ownBlock) :=
  ⟨Kd.bMz (Kd.S_move (Kd.bqz (Kd.cuz HO hg ht)) (fun q hq => hb.block q hq.2.2.1 hq.1.2)) (fun q hq => ⟨trivial, by have := hq.2.2.1; omega⟩),
   ⟨_, rfl, Kd.bkz (Kd.aSz (Kd.bjz hR) (fun q hq => hq.2.1)) hB⟩,
   fun q hq => ⟨trivial, fun e => by have := Kd.R_lt (Kd.S_R HO) q e.symm; omega⟩⟩
theorem BB.then_below {W a b : World} {g : Nat} (h : BB W a g) (k : Below W.heap.size a b) : BB W b g :=
 ⟨k.os.trans h.os, k.tape.trans h.tape, k.output.trans h.output, Nat.le_trans h.size k.size, fun i hi hg => (k.block i hi).trans (h.block i hi hg)⟩
theorem Fd.grown {W W1 : World} {g : Nat} {wb p : Int} {S : Nat → Prop} {v : Value} {t : Nat} (h : Fd W g wb p S) (hg : W.grownBy W1 v.ownBlock) (ht : ∀ k, v.ownBlock = some k → ∃ cells, W.heap[k]? = some (.cells cells t (0, 0))) (h1 : t ≠ 165) (h2 : t ≠ 3) : Fd W1 g wb p S := by
 have key : ∀ (k : Nat) (cs : Array Value) (q : Nat), q ≠ t → W.heap[k]? = some (.cells cs q (0, 0)) → W1.heap[k]? = some (.cells cs q (0, 0)) := fun k cs q hq hk => (hg.block k (awz hk) (fun e => by
  obtain ⟨c2, hc2⟩ := ht k e.symm
  rw [hk] at hc2
  injection hc2 with hc2
  injection hc2 with _ hc2
  exact hq hc2)).trans hk
 obtain ⟨n1, h | ⟨e1, e2, a, b, ha, hb, hc, n2, n3⟩⟩ := h
 ·exact ⟨n1, .inl (key _ _ _ (Ne.symm h1) h)⟩
 ·exact ⟨n1, .inr ⟨e1, e2, a, b, key _ _ _ (Ne.symm h1) ha, key _ _ _ (Ne.symm h2) hb, key _ _ _ (Ne.symm h2) hc, n2, n3⟩⟩
theorem zip_take_succ {α β γ : Type} (f : α → β → γ) (a : List α) (b : List β) (k : Nat) (x : α) (y : β) (hx : a[k]? = some x) (hy : b[k]? = some y) : List.zipWith f (a.take (k + 1)) (b.take (k + 1)) = List.zipWith f (a.take k) (b.take k) ++ [f x y] := by
 have h1 := (List.getElem?_eq_some_iff.1 hx).1
 have h2 := (List.getElem?_eq_some_iff.1 hy).1
 rw [List.take_add_one, List.take_add_one, hx, hy, List.zipWith_append (by simp; omega)]
 rfl
set_option maxRecDepth 100000 in
set_option maxHeartbeats 4000000 in
theorem rDot.calls (g : Nat) (wb : Int) (S : Nat → Prop) (C A : Option Addr) (cc ca K : Nat) (c : List Int) (rows : List (List Int)) (r1 : List Int) (r2 : Int) (W : World) (hw : wb = 8 ∨ wb = 16) (hF : Fd W g wb (fpoly wb) S) (hS : ∀ k, S k → k < W.heap.size)
  (hc : Kd.F (Kd.int .i64) W (NotG g) C c.length c) (hr : Kd.F (dM 5 .u8) W (NotG g) A rows.length rows) (hin : ∀ x, x ∈ c → inF wb x = true) (hlen : c.length = rows.length) (h0 : 0 < rows.length) (hsz : ∀ r, r ∈ rows → r.length ≤ 1000000) (hn : rows.length ≤ 1000) (h : dotB K wb c rows = some (r1, r2)) :
  Calls Tryz.prog 38 #[.pointer (some ⟨g, 0, none⟩), .slice C c.length cc, .slice A rows.length ca] W fun e w' => ∃ v, e = .returned (.tuple #[v, .int .i64 r2]) ∧ (Kd.int .u8).R 5 w' W.heap.size (fun _ => True) v r1 ∧ Fd w' g wb (fpoly wb) S ∧ BB W w' g := by
 have HF0 := Aside0.mk hF
 have HW := Aside0.mk hw
 have HS := Aside0.mk hS
 have HC := Aside0.mk hc
 have HR := Aside0.mk hr
 have HIN := Aside0.mk hin
 have HSZ := Aside0.mk hsz
 have HH := Aside0.mk h
 obtain ⟨n, hnn⟩ : ∃ n, rows.length = n := ⟨_, rfl⟩
 have HL1 := Aside0.mk (hlen.trans hnn)
 have HL2 := Aside0.mk hnn
 rw [hlen] at HC ⊢
 rw [hnn] at HC HR hn h0 ⊢
 have z1 : ((n : Int) == 0) = false := by simp; omega
 have z2 : ((n : Int) != (n : Int)) = false := by simp
 clear hw hF hS hc hr hin hsz h hlen hnn
 go_enter Tryz.func38, Tryz.ntmps38
 go_wp2
 go_loopw [8, 25] (fun v iv wr => ∃ k : Nat, k ≤ n ∧ iv = .int .i64 (k : Int) ∧ Aside0 (Kd.S (dM 5 .u8) 34 wr W.heap.size (fun _ => True) v (List.zipWith (mulB wb) (c.take k) (rows.take k))) ∧ Aside0 (BB W wr g) ∧ Aside0 (Fd wr g wb (fpoly wb) S) ∧ Aside0 ((rows.take k).all (evB wb) = true)) (fun _ iv _ => n - (intOf iv).toNat)
 case atStart => exact ⟨0, Nat.zero_le _, rfl, ⟨Kd.S_nil _ _ _ _ _⟩, ⟨BB.refl _ _⟩, HF0, ⟨rfl⟩⟩
 clear HF0 z1 z2
 obtain ⟨w3, rfl⟩ : ∃ w3, w3 = wr := ⟨_, rfl⟩
 obtain ⟨k, hk, rfl, HO, HB, HF, HEV⟩ := hrel
 by_cases hlt : k < n
 ·obtain ⟨x, hx⟩ : ∃ x, c[k]? = some x := ⟨_, List.getElem?_eq_getElem (by have := HL1.out; omega)⟩
  obtain ⟨b, hb⟩ : ∃ b, rows[k]? = some b := ⟨_, List.getElem?_eq_getElem (by have := HL2.out; omega)⟩
  obtain ⟨ad, A', c', rfl, hcb, hlb, hCb⟩ := a9z (Kd.F_now (F_bb (HL2.out.symm ▸ HR.out) HB.out)) k b hb
  obtain ⟨cd, rfl, hcx⟩ := bBz (Kd.F_now (F_bb (HL1.out.symm ▸ HC.out) HB.out)) k x hx
  have HCB := Aside0.mk hCb
  have HI := Aside0.mk (HIN.out x (List.mem_of_getElem? hx))
  have HBL := Aside0.mk (HSZ.out b (List.mem_of_getElem? hb))
  have HZ := Aside0.mk (zip_take_succ (mulB wb) c rows k x b hx hb)
  have HEV1 := Aside0.mk (show (rows.take (k + 1)).all (evB wb) = ((rows.take k).all (evB wb) && evB wb b) by rw [List.take_add_one, hb]; simp)
  have HALL := Aside0.mk (show evB wb b = false → rows.all (evB wb) = false from fun h => by
   rw [List.all_eq_false]
   exact ⟨b, List.mem_of_getElem? hb, by rw [h]; decide⟩)
  have HS3 := Aside0.mk (show ∀ q, S q → q < w3.heap.size from fun q hq => Nat.lt_of_lt_of_le (HS.out q hq) HB.out.size)
  have k1 : (0 : Int) ≤ (k : Int) := by omega
  have k2 : (k : Int) < (n : Int) := by omega
  clear hx hb hlb hCb
  by_cases hev : evB wb b = true
  ·have HMU := Aside0.mk (rMul.ok g wb x S A' c' b w3 HW.out HF.out HS3.out HCB.out HBL.out (by simpa [evB] using hev) HI.out)
   have HE2 := Aside0.mk (show (rows.take (k + 1)).all (evB wb) = true by rw [HEV1.out, HEV.out, hev]; rfl)
   clear hev
   go_wp2_with fail
   refine HMU.out.mono ?_
   rintro e w4 ⟨v4, rfl, q1, q2, q3⟩
   obtain ⟨gcs, hgcs⟩ := Fd.cells HF.out
   have hj := S_joinK HO.out hgcs (by decide) q3 q1 HB.out.size
   have HLZ := Aside0.mk (show (List.zipWith (mulB wb) (c.take k) (rows.take k)).length ≤ 1000 by simp; omega)
   obtain ⟨va, vc, rfl⟩ := Kd.baz q1
   generalize List.zipWith (mulB wb) (c.take k) (rows.take k) = pre at HO hj HLZ HZ
   generalize (mulB wb x b).length = nm at *
   generalize mulB wb x b = R at hj HZ
   have HS1 := Aside0.mk hj.1
   have HM1 := Aside0.mk hj.2.1
   have HOK := Aside0.mk hj.2.2
   have HSW := Aside0.mk (show W.heap.size ≤ w4.heap.size from Nat.le_trans HB.out.size q3.size)
   have HB4 := Aside0.mk (HB.out.trans q3)
   have HF4 := Aside0.mk q2
   have HTY := Aside0.mk (Kd.cWz hj.1)
   clear q1 q2 q3 hj hgcs HMU HCB hcb hcx HO
   go_wp2_with ((with_reducible refine axz (b := .append) (xs := #[.tmp 43, .tmp 45]) rfl ?_); go_must (at_builtin; refine Kd.bHz (dM 5 .u8) (w0 := w4) W.heap.size rfl (.tmp 43) (.tmp 45) 24 34 (.slice none 0 0) 24 rfl Tryz.underlying24 kr_ rfl (by decide) (by decide) _ _ R [.slice va nm vc] (fun _ => True) (fun k' => w3.heap.size ≤ k') rfl rfl HM1.out HOK.out (fun _ _ => trivial) HS1.out (Below.refl _ _) HSW.out ?aL ?_; (case aL => have := HLZ.out; omega)); intro v2 w5 ho2 hb2 hg2 hat2; have HO5 := Aside0.mk ho2; have HB5 := Aside0.mk hb2; have HG5 := Aside0.mk (show w4.grownBy w5 u8.ownBlock from hg2); clear ho2 hb2 hg2 hat2)
   go_roundw
   case rel => exact ⟨k + 1, by omega, by go_num, ⟨by rw [HZ.out]; exact HO5.out⟩, ⟨HB4.out.then_below HB5.out⟩, ⟨HF4.out.grown HG5.out HTY.out (by decide) (by decide)⟩, HE2⟩
   case measure => simp [intOf]; omega
  ·have hev' : evB wb b = false := by simpa using hev
   have HMU := Aside0.mk (rMul.badw g wb (fpoly wb) x S A' c' b w3 HW.out HF.out HBL.out (by simpa [evB] using hev'))
   have HRES := Aside0.mk (show r1 = [] ∧ r2 = 1 by
    have h := HH.out
    unfold dotB at h
    rw [if_neg (by rw [HALL.out hev']; decide)] at h
    simp only [Option.some.injEq, Prod.mk.injEq] at h
    exact ⟨h.1.symm, h.2.symm⟩)
   clear hev hev'
   go_wp2_with fail
   refine HMU.out.mono ?_
   rintro e w4 ⟨rfl, m4, rfl⟩
   go_wp2
   go_ret2
   refine ⟨.slice none 0 0, ?_, ?_, HF.out.drewN m4, HB.out.drewN m4⟩
   ·rw [HRES.out.2]; rfl
   ·rw [HRES.out.1]; exact Kd.R_nil _ _ _ _ _
 ·obtain rfl : k = n := by omega
  have e1 : c.take k = c := List.take_of_length_le (by rw [HL1.out]; exact Nat.le_refl _)
  have e2 : rows.take k = rows := List.take_of_length_le (by rw [HL2.out]; exact Nat.le_refl _)
  rw [e1, e2] at HO
  rw [e2] at HEV
  have h := HH.out
  unfold dotB at h
  rw [if_pos HEV.out] at h
  have HSUM := Aside0.mk h
  generalize List.zipWith (mulB wb) c rows = pr at HO HSUM
  obtain ⟨PA, pc, rfl, hpl, hpc⟩ := Kd.S_reads HO.out
  have HPS := Aside0.mk (aoz.calls K PA pc pr r1 r2 w3 hpc hpl HSUM.out)
  clear h e1 e2 hpl hpc
  generalize pr.length = np at *
  go_wp2_with fail
  refine HPS.out.mono ?_
  rintro e w4 ⟨v, rfl, s1, s2⟩
  have R1 := Aside0.mk (Kd.bkz s1 HB.out.size)
  have R2 := Aside0.mk (HF.out.below s2)
  have R3 := Aside0.mk (HB.out.trans (BB.of_below s2 g))
  clear s1 s2
  go_wp2
  go_ret2
  exact ⟨_, rfl, R1.out, R2.out, R3.out⟩
def amz.l (K : Nat) (wb : Int) (data : List (List Int)) : List (List Int) → List (List Int) → Option (List (List Int) × Int)
 | [], acc => some (acc, 0)
 | row :: rs, acc => (dotB K wb row data).bind fun t => if t.2 = 0 then amz.l K wb data rs (acc ++ [t.1]) else some ([], 1)
def amz.small (l : List (List Int)) : Bool := decide (l.length ≤ 1000) && l.all (fun r => decide (r.length ≤ 1000000))
def amz.f (k : Nat) (a0_0 a0_1 a0_2 : Int) (l1 : List (List Int)) : Option (List (List Int) × Int) :=
 (agz.f a0_0 a0_1 a0_2).bind fun b => if b = true then (if (l1.length : Int) = a0_1 then (if amz.small l1 = true then amz.l k (pbits a0_0) l1 (parM a0_0 a0_1.toNat a0_2.toNat) [] else none) else some ([], 1)) else some ([], 1)
theorem C_F {α : Type} {d : Kd α} (hd : Kd.Heap d) {W : World} {A : Option Addr} {n : Nat} {xs : List α} (h : d.C W A n xs) : Kd.F d W (fun k => k < W.heap.size) A n xs := fun W' hW => hd.C (fun k hk => hW k hk hk) h
set_option maxRecDepth 100000 in
set_option maxHeartbeats 4000000 in
theorem codec_Parity1.calls (g bf bd : Nat) (wb : Int) (S : Nat → Prop) (C A : Option Addr) (cc ca K : Nat) (c : List Int) (rows : List (List Int)) (r1 : List Int) (r2 : Int) (W : World) (hw : wb = 8 ∨ wb = 16) (hF : Fd W g wb (fpoly wb) S) (hS : ∀ k, S k → k < W.heap.size)
  (hbf : W.heap[bf]? = some (.cells #[.pointer (some ⟨g, 0, none⟩)] 64 (0, 0))) (hbd : W.heap[bd]? = some (.cells #[.slice A rows.length ca] 24 (0, 0)))
  (hc : Kd.F (Kd.int .i64) W (NotG g) C c.length c) (hr : Kd.F (dM 5 .u8) W (NotG g) A rows.length rows) (hin : ∀ x, x ∈ c → inF wb x = true) (hlen : c.length = rows.length) (h0 : 0 < rows.length) (hsz : ∀ r, r ∈ rows → r.length ≤ 1000000) (hn : rows.length ≤ 1000) (h : dotB K wb c rows = some (r1, r2)) :
  Calls Tryz.prog 37 #[.slice C c.length cc, .pointer (some ⟨bf, 0, none⟩), .pointer (some ⟨bd, 0, none⟩)] W fun e w' => ∃ v, e = .returned (.tuple #[v, .int .i64 r2]) ∧ (Kd.int .u8).R 5 w' W.heap.size (fun _ => True) v r1 ∧ Fd w' g wb (fpoly wb) S ∧ BB W w' g := by
 have HD := Aside0.mk (rDot.calls g wb S C A cc ca K c rows r1 r2 W hw hF hS hc hr hin hlen h0 hsz hn h)
 have c1 : W.cell? ⟨bf, 0, none⟩ = some (.pointer (some ⟨g, 0, none⟩)) := (aaz hbf 0).trans rfl
 have c2 : W.cell? ⟨bd, 0, none⟩ = some (.slice A rows.length ca) := (aaz hbd 0).trans rfl
 generalize rows.length = n at HD c2
 generalize c.length = m at HD ⊢
 clear hw hF hS hbf hbd hc hr hin hlen h0 hsz hn h
 go_enter Tryz.func37, Tryz.ntmps37
 go_wp2_with fail
 refine HD.out.mono ?_
 rintro e w1 ⟨v, rfl, q1, q2, q3⟩
 have Q1 := Aside0.mk q1
 have Q2 := Aside0.mk q2
 have Q3 := Aside0.mk q3
 clear q1 q2 q3
 go_wp2
 go_ret2
 exact ⟨_, rfl, Q1.out, Q2.out, Q3.out⟩
set_option maxRecDepth 100000 in
set_option maxHeartbeats 4000000 in
theorem amz.nomay (p k m : Int) (A : Option Addr) (c : Nat) (l : List (List Int)) (W : World) (h : agz.f p k m = some false) :
  Calls Tryz.prog 17 #[.agg #[.int .i64 p, .int .i64 k, .int .i64 m], .slice A l.length c] W fun e w' => e = .returned (.tuple #[.slice none 0 0, .int .i64 1]) ∧ Below W.heap.size W w' := by
 have HP := Aside0.mk (fun w => b6z.no p k m w h)
 have hu := Tryz.underlying23
 generalize l.length = n
 clear h
 go_enter Tryz.func17, Tryz.ntmps17
 go_wp2_with fail
 refine (HP.out _).mono ?_
 rintro e w1 ⟨rfl, hB⟩
 have HB := Aside0.mk (show Below W.heap.size W w1 from (acz (acz (Below.refl _ _) _) _).trans (hB.mono (by simp; omega)))
 clear hB
 go_wp2
 go_ret2
 exact ⟨rfl, HB.out⟩
set_option maxRecDepth 100000 in
set_option maxHeartbeats 4000000 in
theorem amz.nolen (p k m : Int) (A : Option Addr) (c : Nat) (l : List (List Int)) (W : World) (h : agz.f p k m = some true) (hl : (l.length : Int) ≠ k) :
  Calls Tryz.prog 17 #[.agg #[.int .i64 p, .int .i64 k, .int .i64 m], .slice A l.length c] W fun e w' => e = .returned (.tuple #[.slice none 0 0, .int .i64 1]) ∧ Below W.heap.size W w' := by
 have HP := Aside0.mk (fun w => b6z.ok p k m w h)
 have hu := Tryz.underlying23
 generalize l.length = n at hl ⊢
 generalize parM p k.toNat m.toNat = M at HP
 have hne : ((n : Int) != k) = true := by simpa using hl
 have hb1 := heap_alloc_new W (.cells #[.int .i64 p, .int .i64 k, .int .i64 m] 23)
 have hb2 := heap_alloc_new (W.alloc (.cells #[.int .i64 p, .int .i64 k, .int .i64 m] 23)) (.cells #[.slice A n c] 24)
 have hb1' : ((W.alloc (.cells #[.int .i64 p, .int .i64 k, .int .i64 m] 23)).alloc (.cells #[.slice A n c] 24)).heap[W.heap.size]? = some (.cells #[.int .i64 p, .int .i64 k, .int .i64 m] 23 (0, 0)) := ahz hb1 (acz (Below.refl _ _) _)
 have HX1 := Aside0.mk hb1'
 have HX2 := Aside0.mk hb2
 have HB := Aside0.mk (show Below W.heap.size W ((W.alloc (.cells #[.int .i64 p, .int .i64 k, .int .i64 m] 23)).alloc (.cells #[.slice A n c] 24)) from acz (acz (Below.refl _ _) _) _)
 clear h hl hb1 hb2 hb1'
 go_enter Tryz.func17, Tryz.ntmps17
 go_wp2_with fail
 generalize (W.alloc (.cells #[.int .i64 p, .int .i64 k, .int .i64 m] 23)).alloc (.cells #[.slice A n c] 24) = w1 at HX1 HX2 HB ⊢
 refine (HP.out w1).mono ?_
 rintro e w2 ⟨B, bc, rfl, -, -, hB⟩
 have HB2 := Aside0.mk (HB.out.trans (hB.mono HB.out.size))
 have c1 : w2.cell? ⟨W.heap.size, 1, none⟩ = some (.int .i64 k) := (aaz (ahz HX1.out hB) 1).trans rfl
 have c2 : w2.cell? ⟨W.heap.size + 1, 0, none⟩ = some (.slice A n c) := by
  have := (aaz (ahz HX2.out hB) 0)
  simp at this
  exact this
 clear hB
 go_wp2
 go_ret2
 exact ⟨rfl, HB2.out⟩
set_option maxRecDepth 100000 in
set_option maxHeartbeats 4000000 in
theorem amz.go (K : Nat) (p k m : Int) (A : Option Addr) (c : Nat) (l : List (List Int)) (r1 : List (List Int)) (r2 : Int) (W : World) (h : agz.f p k m = some true) (hl : (l.length : Int) = k) (hr : Kd.C (dM 5 .u8) W A l.length l) (hsm : amz.small l = true)
  (hL : amz.l K (pbits p) l (parM p k.toNat m.toNat) [] = some (r1, r2)) :
  Calls Tryz.prog 17 #[.agg #[.int .i64 p, .int .i64 k, .int .i64 m], .slice A l.length c] W fun e w' => ∃ v, e = .returned (.tuple #[v, .int .i64 r2]) ∧ Kd.S (dM 5 .u8) 34 w' W.heap.size (fun _ => True) v r1 ∧ Below W.heap.size W w' := by
 obtain ⟨p1, p2, k1, k2, m1, m2⟩ := bfz h
 have HP := Aside0.mk (fun w => b6z.ok p k m w h)
 have HFD := Aside0.mk (bAz.calls p ⟨p1, p2⟩)
 have HPB := Aside0.mk (pbits_or p)
 have hgd := dpz p k.toNat m.toNat (by omega) (by omega) (by omega) (by omega)
 have HSM := Aside0.mk (show l.length ≤ 1000 ∧ ∀ r, r ∈ l → r.length ≤ 1000000 by
  simp only [amz.small, Bool.and_eq_true, decide_eq_true_eq, List.all_eq_true] at hsm
  exact hsm)
 have hu := Tryz.underlying23
 obtain ⟨n, hn⟩ : ∃ n, l.length = n := ⟨_, rfl⟩
 have HLN := Aside0.mk hn
 obtain rfl : k = (n : Int) := by omega
 simp only [Int.toNat_natCast] at HP hgd hL
 obtain ⟨mm, hmm⟩ : ∃ mm, m.toNat = mm := ⟨_, rfl⟩
 rw [hmm] at HP hgd hL
 have mm4 : mm ≤ 4 := by omega
 have HGD := Aside0.mk hgd
 have HL := Aside0.mk hL
 have HR := Aside0.mk (C_F (Kd.heap_slice _ (Kd.heap_int _)) hr)
 rw [hn] at HR ⊢
 generalize parM p n mm = M at HP HGD HL
 generalize pbits p = wb at HFD HPB HL HGD
 have hself : ((n : Int) != (n : Int)) = false := by simp
 have n1 : 1 ≤ n := by omega
 have n2 : n ≤ 8 := by omega
 have HW := Aside0.mk (show W.heap.size = W.heap.size from rfl)
 have hb1 := heap_alloc_new W (.cells #[.int .i64 p, .int .i64 (n : Int), .int .i64 m] 23)
 have hb2 := heap_alloc_new (W.alloc (.cells #[.int .i64 p, .int .i64 (n : Int), .int .i64 m] 23)) (.cells #[.slice A n c] 24)
 have hb1' : ((W.alloc (.cells #[.int .i64 p, .int .i64 (n : Int), .int .i64 m] 23)).alloc (.cells #[.slice A n c] 24)).heap[W.heap.size]? = some (.cells #[.int .i64 p, .int .i64 (n : Int), .int .i64 m] 23 (0, 0)) := ahz hb1 (acz (Below.refl _ _) _)
 have HX1 := Aside0.mk hb1'
 have HX2 := Aside0.mk (show ((W.alloc (.cells #[.int .i64 p, .int .i64 (n : Int), .int .i64 m] 23)).alloc (.cells #[.slice A n c] 24)).heap[W.heap.size + 1]? = some (.cells #[.slice A n c] 24 (0, 0)) by simpa using hb2)
 have HB := Aside0.mk (show Below W.heap.size W ((W.alloc (.cells #[.int .i64 p, .int .i64 (n : Int), .int .i64 m] 23)).alloc (.cells #[.slice A n c] 24)) from acz (acz (Below.refl _ _) _) _)
 clear h hl hb1 hb2 hb1' hgd hL hr hn p1 p2 k1 k2 hmm hsm
 go_enter Tryz.func17, Tryz.ntmps17
 go_wp2_with fail
 generalize (W.alloc (.cells #[.int .i64 p, .int .i64 (n : Int), .int .i64 m] 23)).alloc (.cells #[.slice A n c] 24) = w1 at HX1 HX2 HB ⊢
 refine (HP.out w1).mono ?_
 rintro e w2 ⟨B, bc, rfl, -, hC2, hB⟩
 have HB2 := Aside0.mk (HB.out.trans (hB.mono HB.out.size))
 have HY1 := Aside0.mk (ahz HX1.out hB)
 have HY2 := Aside0.mk (ahz HX2.out hB)
 have HM2 := Aside0.mk (C_F (Kd.heap_slice _ (Kd.heap_int _)) hC2)
 have c0 : w2.cell? ⟨W.heap.size, 0, none⟩ = some (.int .i64 p) := (aaz HY1.out 0).trans rfl
 have c1 : w2.cell? ⟨W.heap.size, 1, none⟩ = some (.int .i64 (n : Int)) := (aaz HY1.out 1).trans rfl
 have c2 : w2.cell? ⟨W.heap.size + 1, 0, none⟩ = some (.slice A n c) := (aaz HY2.out 0).trans rfl
 have HML := Aside0.mk (show M.length = mm from HGD.out.2)
 clear hB hC2 HP HX1 HX2 HB
 have hmf : ∀ (fn : Fn) (first cap : Array Value) (w : World), (Instr.makeFunc fn first cap).run Tryz.prog w = .ok (.func fn first cap) w := fun _ _ _ _ => rfl
 go_wp2_with fail
 refine (HFD.out w2).mono ?_
 rintro e w3 ⟨g, rfl, q1, q2, q3⟩
 have HB3 := Aside0.mk (HB2.out.trans (q3.mono HB2.out.size))
 have HZ2 := Aside0.mk (ahz HY2.out q3)
 have HFR := Aside0.mk (q1.fd (fun _ => False) (fun h => h))
 have HM3 := Aside0.mk (show Kd.F (dM 3 .i64) w3 (NotG g) B mm M from Kd.cjz (Kd.bRz HM2.out q3) (fun q hq => by show q ≠ g; omega))
 have HD3 := Aside0.mk (show Kd.F (dM 5 .u8) w3 (NotG g) A n l from Kd.cjz (Kd.F_step HR.out (fun q hq _ => HB3.out.block q hq)) (fun q hq => by show q ≠ g; have := HB2.out.size; omega))
 have HG3 := Aside0.mk (show W.heap.size ≤ g from Nat.le_trans HB2.out.size q2)
 have HGN := Aside0.mk (show W.heap.size + 1 ≠ g by have := awz HY2.out; omega)
 clear q1 q2 q3 c0 c1 c2 HM2 HR HY1 HY2 HB2 HFD
 go_wp2
 obtain ⟨bf, hbf⟩ : ∃ bf, bf = w3.heap.size := ⟨_, rfl⟩
 obtain ⟨bd, hbd⟩ : ∃ bd, bd = W.heap.size + 1 := ⟨_, rfl⟩
 have HT := acz (Below.refl w3.heap.size w3) (.cells #[.pointer (some ⟨g, 0, none⟩)] 64)
 have HBF := Aside0.mk (show (w3.alloc (.cells #[.pointer (some ⟨g, 0, none⟩)] 64)).heap[bf]? = some (.cells #[.pointer (some ⟨g, 0, none⟩)] 64 (0, 0)) by rw [hbf]; exact heap_alloc_new _ _)
 have HBD := Aside0.mk (show (w3.alloc (.cells #[.pointer (some ⟨g, 0, none⟩)] 64)).heap[bd]? = some (.cells #[.slice A n c] 24 (0, 0)) by rw [hbd]; exact ahz HZ2.out HT)
 have HB5 := Aside0.mk (acz HB3.out (.cells #[.pointer (some ⟨g, 0, none⟩)] 64))
 have HF5 := Aside0.mk (HFR.out.alloc (.cells #[.pointer (some ⟨g, 0, none⟩)] 64))
 have HM5 := Aside0.mk (Kd.F_alloc HM3.out (.cells #[.pointer (some ⟨g, 0, none⟩)] 64))
 have HD5 := Aside0.mk (Kd.F_alloc HD3.out (.cells #[.pointer (some ⟨g, 0, none⟩)] 64))
 have HN1 := Aside0.mk (show bf ≠ g by have := HFR.out.lt; omega)
 have HN2 := Aside0.mk (show bd ≠ g by rw [hbd]; exact HGN.out)
 rw [← hbf, ← hbd]
 clear HT hbf hbd HB3 HZ2 HFR HM3 HD3 HGN
 generalize w3.alloc (.cells #[.pointer (some ⟨g, 0, none⟩)] 64) = w5 at HBF HBD HB5 HF5 HM5 HD5 ⊢
 go_loopw [10, 35] (fun v iv wr => ∃ (k : Nat) (acc : List (List Int)), k ≤ mm ∧ iv = .int .i64 (k : Int) ∧ Aside0 (Kd.S (dM 5 .u8) 34 wr w5.heap.size (fun _ => True) v acc) ∧ Aside0 (BB w5 wr g) ∧ Aside0 (Fd wr g wb (fpoly wb) (fun _ => False)) ∧ Aside0 (amz.l K wb l (M.drop k) acc = some (r1, r2)) ∧ acc.length ≤ k) (fun _ iv _ => mm - (intOf iv).toNat)
 case atStart => exact ⟨0, [], Nat.zero_le _, rfl, ⟨Kd.S_nil _ _ _ _ _⟩, ⟨BB.refl _ _⟩, HF5, HL, Nat.zero_le _⟩
 clear HF5 HL
 obtain ⟨w6, rfl⟩ : ∃ w6, w6 = wr := ⟨_, rfl⟩
 obtain ⟨k, acc, hk, rfl, HO, HB, HF, HL, hacc⟩ := hrel
 by_cases hlt : k < mm
 ·obtain ⟨row, hrow⟩ : ∃ x, M[k]? = some x := ⟨_, List.getElem?_eq_getElem (by have := HML.out; omega)⟩
  have hdr : M.drop k = row :: M.drop (k + 1) := by
   obtain ⟨h1, h2⟩ := List.getElem?_eq_some_iff.1 hrow
   rw [List.drop_eq_getElem_cons h1, h2]
  have hl := HL.out
  rw [hdr, amz.l] at hl
  obtain ⟨⟨t1, t2⟩, hd, hl2⟩ := Option.bind_eq_some_iff.1 hl
  have hgr := HGD.out.1 row (List.mem_of_getElem? hrow)
  have HRL := Aside0.mk hgr.1
  have hFM := F_bb HM5.out HB.out
  rw [← HML.out] at hFM
  obtain ⟨ad, A', c', rfl, hcr, hlr, -⟩ := a9z (Kd.F_now hFM) k row hrow
  obtain ⟨A2, c2, hcr2, hlr2, hFr⟩ := row_atF hFM k row hrow
  obtain ⟨rfl, rfl⟩ : A' = A2 ∧ c' = c2 := by
   rw [hcr] at hcr2
   injection hcr2 with e
   injection e with e1 e2 e3
   exact ⟨e1, e3⟩
  have HDC := Aside0.mk (codec_Parity1.calls g bf bd wb (fun _ => False) A' A c' c K row l t1 t2 w6 HPB.out HF.out (fun _ h => h.elim) ((HB.out.block bf (awz HBF.out) HN1.out).trans HBF.out) (by rw [HLN.out]; exact (HB.out.block bd (awz HBD.out) HN2.out).trans HBD.out) hFr (by rw [HLN.out]; exact F_bb HD5.out HB.out) (fun x hx => by
   have := hgr.2 x hx
   simp [inF, this]) (by rw [HRL.out, HLN.out]) (by rw [HLN.out]; omega) HSM.out.2 HSM.out.1 hd)
  have HL2 := Aside0.mk hl2
  rw [HRL.out] at HDC hcr
  have k1 : (0 : Int) ≤ (k : Int) := by omega
  have k2 : (k : Int) < (mm : Int) := by omega
  clear hrow hdr hl hl2 hd hgr hFM hlr hcr2 hlr2 hFr
  go_wp2_with fail
  refine HDC.out.mono ?_
  rintro e w7 ⟨v7, rfl, q1, q2, q3⟩
  by_cases ht2 : t2 = 0
  ·subst ht2
   have HL3 := HL2.out
   rw [if_pos rfl] at HL3
   have HL4 := Aside0.mk HL3
   obtain ⟨gcs, hgcs⟩ := Fd.cells HF.out
   have hj := S_joinK HO.out hgcs (by decide) q3 q1 HB.out.size
   obtain ⟨va, vc, rfl⟩ := Kd.baz q1
   generalize t1.length = nm at *
   have HS1 := Aside0.mk hj.1
   have HM1 := Aside0.mk hj.2.1
   have HOK := Aside0.mk hj.2.2
   have HSW := Aside0.mk (show w5.heap.size ≤ w7.heap.size from Nat.le_trans HB.out.size q3.size)
   have HB7 := Aside0.mk (HB.out.trans q3)
   have HF7 := Aside0.mk q2
   have HTY := Aside0.mk (Kd.cWz hj.1)
   have hal : acc.length ≤ 100 := by omega
   clear q1 q2 q3 hj hgcs HDC hcr HO HL3 HL2
   have HAL := Aside0.mk hal
   have HAC := Aside0.mk hacc
   clear hal hacc
   go_wp2_with ((with_reducible refine axz (b := .append) (xs := #[.tmp 47, .tmp 49]) rfl ?_); go_must (at_builtin; refine Kd.bHz (dM 5 .u8) (w0 := w7) w5.heap.size rfl (.tmp 47) (.tmp 49) 24 34 (.slice none 0 0) 24 rfl Tryz.underlying24 kr_ rfl (by decide) (by decide) _ _ t1 [.slice va nm vc] (fun _ => True) (fun k' => w6.heap.size ≤ k') rfl rfl HM1.out HOK.out (fun _ _ => trivial) HS1.out (Below.refl _ _) HSW.out ?aL ?_; (case aL => have := HAL.out; omega)); intro v2 w8 ho2 hb2 hg2 hat2; have HO8 := Aside0.mk ho2; have HB8 := Aside0.mk hb2; have HG8 := Aside0.mk (show w7.grownBy w8 u10.ownBlock from hg2); clear ho2 hb2 hg2 hat2)
   go_roundw
   case rel => exact ⟨k + 1, acc ++ [t1], by omega, by go_num, HO8, ⟨HB7.out.then_below HB8.out⟩, ⟨HF7.out.grown HG8.out HTY.out (by decide) (by decide)⟩, HL4, by have := HAC.out; simp; omega⟩
   case measure => simp [intOf]; omega
  ·have hb2 : (t2 != 0) = true := by simpa using ht2
   have HRES := Aside0.mk (show r1 = [] ∧ r2 = 1 by
    have h := HL2.out
    rw [if_neg ht2] at h
    simp only [Option.some.injEq, Prod.mk.injEq] at h
    exact ⟨h.1.symm, h.2.symm⟩)
   have HB7 := Aside0.mk (HB.out.trans q3)
   clear q1 q2 q3 ht2 HDC hcr
   go_wp2
   go_ret2
   refine ⟨.slice none 0 0, ?_, ?_, HB7.out.below HB5.out HG3.out⟩
   ·rw [HRES.out.2]; rfl
   ·rw [HRES.out.1]; exact Kd.S_nil _ _ _ _ _
 ·obtain rfl : k = mm := by omega
  have h := HL.out
  rw [List.drop_of_length_le (by rw [HML.out]; exact Nat.le_refl _), amz.l] at h
  simp only [Option.some.injEq, Prod.mk.injEq] at h
  obtain ⟨rfl, rfl⟩ := h
  go_wp2
  go_ret2
  exact ⟨_, rfl, Kd.csz HO.out HB5.out.size, HB.out.below HB5.out HG3.out⟩
theorem amz.calls (k : Nat) (a0_0 : Int) (a0_1 : Int) (a0_2 : Int) (A1 : Option Addr) (c1 : Nat) (l1 : List (List Int)) (r1 : List (List Int)) (r2 : Int) (w : World) (hr1 : Kd.C (Kd.slice 5 (Kd.int .u8)) w A1 l1.length l1) (hc1 : l1.length ≤ c1) (h : amz.f k a0_0 a0_1 a0_2 l1 = some (r1, r2)) :
 Calls Tryz.prog 17 #[.agg #[.int .i64 a0_0, .int .i64 a0_1, .int .i64 a0_2], .slice A1 l1.length c1] w fun e w' => ∃ v0_ : Value, e = .returned (.tuple #[v0_, .int .i64 r2]) ∧ Kd.S (Kd.slice 5 (Kd.int .u8)) 34 w' w.heap.size (fun _ => True) v0_ r1 ∧ Below w.heap.size w w' := by
 unfold amz.f at h
 obtain ⟨b, hb⟩ := may_some a0_0 a0_1 a0_2
 rw [hb] at h
 simp only [Option.bind_some] at h
 have bad : ∀ (hh : some (([] : List (List Int)), (1 : Int)) = some (r1, r2)) (hc : Calls Tryz.prog 17 #[.agg #[.int .i64 a0_0, .int .i64 a0_1, .int .i64 a0_2], .slice A1 l1.length c1] w fun e w' => e = .returned (.tuple #[.slice none 0 0, .int .i64 1]) ∧ Below w.heap.size w w'), Calls Tryz.prog 17 #[.agg #[.int .i64 a0_0, .int .i64 a0_1, .int .i64 a0_2], .slice A1 l1.length c1] w fun e w' => ∃ v0_ : Value, e = .returned (.tuple #[v0_, .int .i64 r2]) ∧ Kd.S (Kd.slice 5 (Kd.int .u8)) 34 w' w.heap.size (fun _ => True) v0_ r1 ∧ Below w.heap.size w w' := by
  intro hh hc
  simp only [Option.some.injEq, Prod.mk.injEq] at hh
  obtain ⟨rfl, rfl⟩ := hh
  refine hc.mono ?_
  rintro e w' ⟨rfl, hB⟩
  exact ⟨_, rfl, Kd.S_nil _ _ _ _ _, hB⟩
 cases b with
 | false => exact bad (by simpa using h) (amz.nomay a0_0 a0_1 a0_2 A1 c1 l1 w hb)
 | true =>
  rw [if_pos rfl] at h
  by_cases hl : (l1.length : Int) = a0_1
  ·rw [if_pos hl] at h
   by_cases hs : amz.small l1 = true
   ·rw [if_pos hs] at h
    exact amz.go k a0_0 a0_1 a0_2 A1 c1 l1 r1 r2 w hb hl hr1 hs h
   ·rw [if_neg hs] at h; cases h
  ·rw [if_neg hl] at h
   exact bad h (amz.nolen a0_0 a0_1 a0_2 A1 c1 l1 w hb hl)
def aUz.f (a0_0 : Int) (a0_1 : Int) (a0_2 : Int) : Option (Int × Int) := (asz.f a0_0).bind fun bt120 => (if bt120.2.2.2.1 = 106 then (some (8, 0)) else (if bt120.2.2.2.1 = 105 then (some (16, 0)) else (if bt120.2.2.2.1 = 98 then (some (1, 4)) else (some (1, 0)))))
set_option maxHeartbeats 8000000 in
set_option maxRecDepth 100000 in
theorem aUz.calls (a0_0 : Int) (a0_1 : Int) (a0_2 : Int) (r1 : Int) (r2 : Int) (w : World) (h : aUz.f a0_0 a0_1 a0_2 = some (r1, r2)) :
  Calls Tryz.prog 65 #[.agg #[.int .i64 a0_0, .int .i64 a0_1, .int .i64 a0_2]] w fun e w' => e = .returned (.tuple #[.int .i64 r1, .int .i64 r2]) ∧ Below w.heap.size w w' := by
 have hu23 := Tryz.underlying23
 have hu103 := Tryz.underlying103
 have HB := Aside0.mk (Below.refl w.heap.size w)
 have H := h
 clear h
 unfold aUz.f at H
 obtain ⟨⟨t120, t121, t122, t123, t124, t125⟩, A2, H⟩ := ob_ H
 (try dsimp only at H)
 by_cases c3 : t123 = 106
 ·rw [if_pos c3] at H
  have c3b0 : (t123 == 106) = true := beq_iff_eq.mpr c3
  have c3b1 : (t123 != 106) = false := bne_eq_false_iff_eq.mpr c3
  clear c3
  simp only [Option.some.injEq, Prod.mk.injEq] at H
  obtain ⟨rfl, rfl⟩ := H
  go_enter Tryz.func65, Tryz.ntmps65
  go_wp2_with (first | ((with_reducible refine ayz (N := 1) rfl ?_); refine bx_ 1 #[.int .i64 a0_0, .int .i64 a0_1, .int .i64 a0_2] 23 ?_; intro gb119 hg w4 hbox hb; have n_ := And.intro (hs_ HB hb) (And.intro (Aside0.mk (hbox)) (And.intro (ag_ HB gb119) (ag_ HB gb119))); clear HB; obtain ⟨HB, BK119, GW119, GE119⟩ := n_; clear hb hbox hg; obtain ⟨hcz5_0, hfz5_0, hcz5_1, hfz5_1, hcz5_2, hfz5_2⟩ := bc3_ BK119.out) | ((with_reducible refine ajz (f := 73) rfl ?_); refine gl_ (some 9) Tryz.func73 #[.int .i64 a0_0] ?_; (with_reducible refine (asz.calls a0_0 t120 t121 t122 t123 t124 t125 _ A2.out).mono ?_); rintro e w6 ⟨rfl, hb⟩; refine ⟨_, rfl, ?_⟩; have n_ := And.intro (bb_ BK119 hb) (hs_ HB hb); clear BK119 HB; obtain ⟨BK119, HB⟩ := n_; (try clear hb)) | ((with_reducible refine ayz (N := 4) rfl ?_); refine a3z ?hg (N := 4) ?hd (cs := #[.string (⟨#[]⟩ : ByteArray), .int .i64 0, .int .u32 0, .int .u8 0, .int .i64 0]) (t := 103) ?hr ?_; (case hd => rfl); (case hg => rfl); (case hr => first | (go_simp; done) | (go_simp; rfl)); intro gb126 hg w7 hbox hb; have n_ := And.intro (bb_ BK119 hb) (And.intro (hs_ HB hb) (And.intro (Aside0.mk (hbox)) (And.intro (ag_ HB gb126) (And.intro (ag_ HB gb126) (And.intro (n1_ BK119 gb126) (n2_ BK119 gb126)))))); clear BK119 HB; obtain ⟨BK119, HB, BK126, GW126, GE126, NB119_126, NB126_119⟩ := n_; clear hb hbox hg; have hnb8 := NB126_119.out; have hnc8 := NB119_126.out; obtain ⟨hcz9_0, hfz9_0, hcz9_1, hfz9_1, hcz9_2, hfz9_2, hcz9_3, hfz9_3, hcz9_4, hfz9_4⟩ := bc5_ BK126.out))
  go_ret2
  exact ⟨er_, bl_⟩
 ·rw [if_neg c3] at H
  have c3b0 : (t123 == 106) = false := beq_eq_false_iff_ne.mpr c3
  have c3b1 : (t123 != 106) = true := bne_iff_ne.mpr c3
  by_cases c10 : t123 = 105
  ·rw [if_pos c10] at H
   have c10b0 : (t123 == 105) = true := beq_iff_eq.mpr c10
   have c10b1 : (t123 != 105) = false := bne_eq_false_iff_eq.mpr c10
   clear c10
   simp only [Option.some.injEq, Prod.mk.injEq] at H
   obtain ⟨rfl, rfl⟩ := H
   go_enter Tryz.func65, Tryz.ntmps65
   go_wp2_with (first | ((with_reducible refine ayz (N := 1) rfl ?_); refine bx_ 1 #[.int .i64 a0_0, .int .i64 a0_1, .int .i64 a0_2] 23 ?_; intro gb119 hg w11 hbox hb; have n_ := And.intro (hs_ HB hb) (And.intro (Aside0.mk (hbox)) (And.intro (ag_ HB gb119) (ag_ HB gb119))); clear HB; obtain ⟨HB, BK119, GW119, GE119⟩ := n_; clear hb hbox hg; obtain ⟨hcz12_0, hfz12_0, hcz12_1, hfz12_1, hcz12_2, hfz12_2⟩ := bc3_ BK119.out) | ((with_reducible refine ajz (f := 73) rfl ?_); refine gl_ (some 9) Tryz.func73 #[.int .i64 a0_0] ?_; (with_reducible refine (asz.calls a0_0 t120 t121 t122 t123 t124 t125 _ A2.out).mono ?_); rintro e w13 ⟨rfl, hb⟩; refine ⟨_, rfl, ?_⟩; have n_ := And.intro (bb_ BK119 hb) (hs_ HB hb); clear BK119 HB; obtain ⟨BK119, HB⟩ := n_; (try clear hb)) | ((with_reducible refine ayz (N := 4) rfl ?_); refine a3z ?hg (N := 4) ?hd (cs := #[.string (⟨#[]⟩ : ByteArray), .int .i64 0, .int .u32 0, .int .u8 0, .int .i64 0]) (t := 103) ?hr ?_; (case hd => rfl); (case hg => rfl); (case hr => first | (go_simp; done) | (go_simp; rfl)); intro gb126 hg w14 hbox hb; have n_ := And.intro (bb_ BK119 hb) (And.intro (hs_ HB hb) (And.intro (Aside0.mk (hbox)) (And.intro (ag_ HB gb126) (And.intro (ag_ HB gb126) (And.intro (n1_ BK119 gb126) (n2_ BK119 gb126)))))); clear BK119 HB; obtain ⟨BK119, HB, BK126, GW126, GE126, NB119_126, NB126_119⟩ := n_; clear hb hbox hg; have hnb15 := NB126_119.out; have hnc15 := NB119_126.out; obtain ⟨hcz16_0, hfz16_0, hcz16_1, hfz16_1, hcz16_2, hfz16_2, hcz16_3, hfz16_3, hcz16_4, hfz16_4⟩ := bc5_ BK126.out))
   go_ret2
   exact ⟨er_, bl_⟩
  ·rw [if_neg c10] at H
   have c10b0 : (t123 == 105) = false := beq_eq_false_iff_ne.mpr c10
   have c10b1 : (t123 != 105) = true := bne_iff_ne.mpr c10
   by_cases c17 : t123 = 98
   ·rw [if_pos c17] at H
    have c17b0 : (t123 == 98) = true := beq_iff_eq.mpr c17
    have c17b1 : (t123 != 98) = false := bne_eq_false_iff_eq.mpr c17
    clear c17
    simp only [Option.some.injEq, Prod.mk.injEq] at H
    obtain ⟨rfl, rfl⟩ := H
    go_enter Tryz.func65, Tryz.ntmps65
    go_wp2_with (first | ((with_reducible refine ayz (N := 1) rfl ?_); refine bx_ 1 #[.int .i64 a0_0, .int .i64 a0_1, .int .i64 a0_2] 23 ?_; intro gb119 hg w18 hbox hb; have n_ := And.intro (hs_ HB hb) (And.intro (Aside0.mk (hbox)) (And.intro (ag_ HB gb119) (ag_ HB gb119))); clear HB; obtain ⟨HB, BK119, GW119, GE119⟩ := n_; clear hb hbox hg; obtain ⟨hcz19_0, hfz19_0, hcz19_1, hfz19_1, hcz19_2, hfz19_2⟩ := bc3_ BK119.out) | ((with_reducible refine ajz (f := 73) rfl ?_); refine gl_ (some 9) Tryz.func73 #[.int .i64 a0_0] ?_; (with_reducible refine (asz.calls a0_0 t120 t121 t122 t123 t124 t125 _ A2.out).mono ?_); rintro e w20 ⟨rfl, hb⟩; refine ⟨_, rfl, ?_⟩; have n_ := And.intro (bb_ BK119 hb) (hs_ HB hb); clear BK119 HB; obtain ⟨BK119, HB⟩ := n_; (try clear hb)) | ((with_reducible refine ayz (N := 4) rfl ?_); refine a3z ?hg (N := 4) ?hd (cs := #[.string (⟨#[]⟩ : ByteArray), .int .i64 0, .int .u32 0, .int .u8 0, .int .i64 0]) (t := 103) ?hr ?_; (case hd => rfl); (case hg => rfl); (case hr => first | (go_simp; done) | (go_simp; rfl)); intro gb126 hg w21 hbox hb; have n_ := And.intro (bb_ BK119 hb) (And.intro (hs_ HB hb) (And.intro (Aside0.mk (hbox)) (And.intro (ag_ HB gb126) (And.intro (ag_ HB gb126) (And.intro (n1_ BK119 gb126) (n2_ BK119 gb126)))))); clear BK119 HB; obtain ⟨BK119, HB, BK126, GW126, GE126, NB119_126, NB126_119⟩ := n_; clear hb hbox hg; have hnb22 := NB126_119.out; have hnc22 := NB119_126.out; obtain ⟨hcz23_0, hfz23_0, hcz23_1, hfz23_1, hcz23_2, hfz23_2, hcz23_3, hfz23_3, hcz23_4, hfz23_4⟩ := bc5_ BK126.out))
    go_ret2
    exact ⟨er_, bl_⟩
   ·rw [if_neg c17] at H
    have c17b0 : (t123 == 98) = false := beq_eq_false_iff_ne.mpr c17
    have c17b1 : (t123 != 98) = true := bne_iff_ne.mpr c17
    simp only [Option.some.injEq, Prod.mk.injEq] at H
    obtain ⟨rfl, rfl⟩ := H
    go_enter Tryz.func65, Tryz.ntmps65
    go_wp2_with (first | ((with_reducible refine ayz (N := 1) rfl ?_); refine bx_ 1 #[.int .i64 a0_0, .int .i64 a0_1, .int .i64 a0_2] 23 ?_; intro gb119 hg w24 hbox hb; have n_ := And.intro (hs_ HB hb) (And.intro (Aside0.mk (hbox)) (And.intro (ag_ HB gb119) (ag_ HB gb119))); clear HB; obtain ⟨HB, BK119, GW119, GE119⟩ := n_; clear hb hbox hg; obtain ⟨hcz25_0, hfz25_0, hcz25_1, hfz25_1, hcz25_2, hfz25_2⟩ := bc3_ BK119.out) | ((with_reducible refine ajz (f := 73) rfl ?_); refine gl_ (some 9) Tryz.func73 #[.int .i64 a0_0] ?_; (with_reducible refine (asz.calls a0_0 t120 t121 t122 t123 t124 t125 _ A2.out).mono ?_); rintro e w26 ⟨rfl, hb⟩; refine ⟨_, rfl, ?_⟩; have n_ := And.intro (bb_ BK119 hb) (hs_ HB hb); clear BK119 HB; obtain ⟨BK119, HB⟩ := n_; (try clear hb)) | ((with_reducible refine ayz (N := 4) rfl ?_); refine a3z ?hg (N := 4) ?hd (cs := #[.string (⟨#[]⟩ : ByteArray), .int .i64 0, .int .u32 0, .int .u8 0, .int .i64 0]) (t := 103) ?hr ?_; (case hd => rfl); (case hg => rfl); (case hr => first | (go_simp; done) | (go_simp; rfl)); intro gb126 hg w27 hbox hb; have n_ := And.intro (bb_ BK119 hb) (And.intro (hs_ HB hb) (And.intro (Aside0.mk (hbox)) (And.intro (ag_ HB gb126) (And.intro (ag_ HB gb126) (And.intro (n1_ BK119 gb126) (n2_ BK119 gb126)))))); clear BK119 HB; obtain ⟨BK119, HB, BK126, GW126, GE126, NB119_126, NB126_119⟩ := n_; clear hb hbox hg; have hnb28 := NB126_119.out; have hnc28 := NB119_126.out; obtain ⟨hcz29_0, hfz29_0, hcz29_1, hfz29_1, hcz29_2, hfz29_2, hcz29_3, hfz29_3, hcz29_4, hfz29_4⟩ := bc5_ BK126.out))
    go_ret2
    exact ⟨er_, bl_⟩
def azz.j0 : Nat → Int → Bool → Int → Int → Int → Option (Int × Int)
 | 0, _, _, _, _, _ => none
 | k + 1, x1, x9, x128000, x128001, x128002 => if x9 = true then (some (0, 1)) else (if x1 > 4096 then (some (0, 11)) else ((aUz.f x128000 x128001 x128002).bind fun bt129 => (if (wrap64 (bt129.1 * x128001)) = 0 then (none) else (some (wrap64 (bt129.1 * (mx (wrap64 (Int.tdiv (wrap64 ((wrap64 ((wrap64 (x1 + bt129.2)) + (wrap64 (bt129.1 * x128001)))) - 1)) (wrap64 (bt129.1 * x128001)))) 1)), 0)))))
def azz.f (k : Nat) (a0_0 : Int) (a0_1 : Int) (a0_2 : Int) (a1 : Int) : Option (Int × Int) := (agz.f a0_0 a0_1 a0_2).bind fun t128 => (if t128 = true then (azz.j0 k a1 (decide (a1 < 0)) a0_0 a0_1 a0_2) else (azz.j0 k a1 true a0_0 a0_1 a0_2))
theorem azz.cIz : ∀ k, (∀ y0 y1 y2 y3 y4, LeO (azz.j0 k y0 y1 y2 y3 y4) (azz.j0 (k + 1) y0 y1 y2 y3 y4))
 | 0 => fun _ _ _ _ _ r h => by simp [azz.j0] at h
 | k + 1 => by
  have ih0 := azz.cIz k
  ·intro y0 y1 y2 y3 y4
   unfold azz.j0
   repeat' first
   | (with_reducible exact ih0 _ _ _ _ _)
   | (with_reducible exact LeO.refl _)
   | (with_reducible exact LeO.none _)
   | (with_reducible refine LeO.ite ?_ ?_)
   | (with_reducible refine LeO.bind ?_ (fun _ => ?_))
   | exact ih0 _ _ _ _ _
   | exact LeO.none _
   | refine LeO.ite ?_ ?_
   | refine LeO.bind ?_ (fun _ => ?_)
theorem azz.mono : ∀ a0 a1 a2 a3 k, LeO (azz.f k a0 a1 a2 a3) (azz.f (k + 1) a0 a1 a2 a3) := by
 intro a0 a1 a2 a3 k
 have ih0 := azz.cIz k
 unfold azz.f
 repeat' first
   | (with_reducible exact ih0 _ _ _ _ _)
   | (with_reducible exact LeO.refl _)
   | (with_reducible exact LeO.none _)
   | (with_reducible refine LeO.ite ?_ ?_)
   | (with_reducible refine LeO.bind ?_ (fun _ => ?_))
   | exact ih0 _ _ _ _ _
   | exact LeO.none _
   | refine LeO.ite ?_ ?_
   | refine LeO.bind ?_ (fun _ => ?_)
set_option maxHeartbeats 8000000 in
set_option maxRecDepth 100000 in
theorem azz.calls (k : Nat) (a0_0 : Int) (a0_1 : Int) (a0_2 : Int) (a1 : Int) (r1 : Int) (r2 : Int) (w : World) (h : azz.f k a0_0 a0_1 a0_2 a1 = some (r1, r2)) :
  Calls Tryz.prog 81 #[.agg #[.int .i64 a0_0, .int .i64 a0_1, .int .i64 a0_2], .int .i64 a1] w fun e w' => e = .returned (.tuple #[.int .i64 r1, .int .i64 r2]) ∧ Below w.heap.size w w' := by
 have hu23 := Tryz.underlying23
 have HB := Aside0.mk (Below.refl w.heap.size w)
 have H := h
 clear h
 unfold azz.f at H
 have HC3 := Aside0.mk H
 clear H
 go_enter Tryz.func81, Tryz.ntmps81
 go_upto_region 1 with (first | ((with_reducible refine ayz (N := 2) rfl ?_); refine bx_ 2 #[.int .i64 a0_0, .int .i64 a0_1, .int .i64 a0_2] 23 ?_; intro gb127 hg w4 hbox hb; have n_ := And.intro (hs_ HB hb) (And.intro (Aside0.mk (hbox)) (And.intro (ag_ HB gb127) (ag_ HB gb127))); clear HB; obtain ⟨HB, BK127, GW127, GE127⟩ := n_; clear hb hbox hg))
 (try simp only [Act.put, List.setIfInBounds_toArray, List.set_cons_zero, List.set_cons_succ])
 go_cut [9] (fun v9 wc => ∃ (kq : Nat) (x9_2 : Bool), v9 = .bool x9_2 ∧ Aside0 (azz.j0 kq a1 x9_2 a0_0 a0_1 a0_2 = some (r1, r2)) ∧ Aside0 (kq ≤ k) ∧ Aside0 (wc.heap[gb127]? = some (.cells #[.int .i64 a0_0, .int .i64 a0_1, .int .i64 a0_2] 23 (0, 0))) ∧ Aside0 (Below w.heap.size w wc))
 case first =>
  have H := HC3.out
  clear HC3
  obtain ⟨t128, A5, H⟩ := ob_ H
  (try dsimp only at H)
  by_cases c6 : t128 = true
  ·subst c6
   rw [if_pos rfl] at H
   have H' := Aside0.mk H
   clear H
   obtain ⟨hcz7_0, hfz7_0, hcz7_1, hfz7_1, hcz7_2, hfz7_2⟩ := bc3_ BK127.out
   go_wp2_with (first | ((with_reducible refine ajz (f := 44) rfl ?_); refine gl_ (some 11) Tryz.func44 #[.agg #[.int .i64 a0_0, .int .i64 a0_1, .int .i64 a0_2]] ?_; (with_reducible refine (agz.calls a0_0 a0_1 a0_2 true _ A5.out).mono ?_); rintro e w8 ⟨rfl, hb⟩; refine ⟨_, rfl, ?_⟩; have n_ := And.intro (bb_ BK127 hb) (hs_ HB hb); clear BK127 HB; obtain ⟨BK127, HB⟩ := n_; (try clear hb)))
   go_meet
   case rel => exact ⟨_, (decide (a1 < 0)), sd_, H', ⟨by first | omega | exact Nat.le_refl _⟩, ⟨bk_⟩, ⟨bl_⟩⟩
  ·replace c6 := Bool.eq_false_iff.mpr c6
   subst c6
   rw [if_neg (show ¬ (false = true) by decide)] at H
   have H' := Aside0.mk H
   clear H
   obtain ⟨hcz9_0, hfz9_0, hcz9_1, hfz9_1, hcz9_2, hfz9_2⟩ := bc3_ BK127.out
   go_wp2_with (first | ((with_reducible refine ajz (f := 44) rfl ?_); refine gl_ (some 11) Tryz.func44 #[.agg #[.int .i64 a0_0, .int .i64 a0_1, .int .i64 a0_2]] ?_; (with_reducible refine (agz.calls a0_0 a0_1 a0_2 false _ A5.out).mono ?_); rintro e w10 ⟨rfl, hb⟩; refine ⟨_, rfl, ?_⟩; have n_ := And.intro (bb_ BK127 hb) (hs_ HB hb); clear BK127 HB; obtain ⟨BK127, HB⟩ := n_; (try clear hb)))
   go_meet
   case rel => exact ⟨_, (true), sd_, H', ⟨by first | omega | exact Nat.le_refl _⟩, ⟨bk_⟩, ⟨bl_⟩⟩
 case rest =>
  clear HC3
  obtain ⟨kq, x9_2, rfl, HA, HJ2, BK127, HB⟩ := hcut
  rcases kq with _ | kj2
  ·exact absurd HA.out (by simp [azz.j0])
  have H := HA.out
  clear HA
  simp only [azz.j0] at H
  by_cases c11 : x9_2 = true
  ·subst c11
   rw [if_pos rfl] at H
   simp only [Option.some.injEq, Prod.mk.injEq] at H
   obtain ⟨rfl, rfl⟩ := H
   go_wp2
   go_ret2
   exact ⟨er_, bl_⟩
  ·replace c11 := Bool.eq_false_iff.mpr c11
   subst c11
   rw [if_neg (show ¬ (false = true) by decide)] at H
   by_cases c12 : a1 > 4096
   ·rw [if_pos c12] at H
    have c12b0 : decide (4096 < a1) = true := decide_eq_true c12
    clear c12
    simp only [Option.some.injEq, Prod.mk.injEq] at H
    obtain ⟨rfl, rfl⟩ := H
    go_wp2
    go_ret2
    exact ⟨er_, bl_⟩
   ·rw [if_neg c12] at H
    have c12b0 : decide (4096 < a1) = false := decide_eq_false c12
    clear c12
    obtain ⟨⟨t129, t130⟩, A13, H⟩ := ob_ H
    (try dsimp only at H)
    by_cases c14 : (wrap64 (t129 * a0_1)) = 0
    ·rw [if_pos c14] at H
     exact absurd H (by simp)
    ·rw [if_neg c14] at H
     have c14b0 : ((wrap64 (t129 * a0_1)) == 0) = false := beq_eq_false_iff_ne.mpr c14
     have c14b1 : ((wrap64 (t129 * a0_1)) != 0) = true := bne_iff_ne.mpr c14
     obtain ⟨ji15, hji15⟩ : ∃ j_ : Int, (mx (wrap64 (Int.tdiv (wrap64 ((wrap64 ((wrap64 (a1 + t130)) + (wrap64 (t129 * a0_1)))) - 1)) (wrap64 (t129 * a0_1)))) 1) = j_ := ⟨_, rfl⟩
     replace H : (some (wrap64 (t129 * (ji15)), 0)) = some (r1, r2) := by first | (rw [hji15] at H; exact H) | (simp only [hji15] at H ⊢; exact H)
     (try rw [hji15] at A13)
     have hji15_ : (if (wrap64 (Int.tdiv (wrap64 ((wrap64 ((wrap64 (a1 + t130)) + (wrap64 (t129 * a0_1)))) - 1)) (wrap64 (t129 * a0_1)))) < 1 then 1 else (wrap64 (Int.tdiv (wrap64 ((wrap64 ((wrap64 (a1 + t130)) + (wrap64 (t129 * a0_1)))) - 1)) (wrap64 (t129 * a0_1))))) = ji15 := hji15
     simp only [Option.some.injEq, Prod.mk.injEq] at H
     obtain ⟨rfl, rfl⟩ := H
     obtain ⟨hcz16_0, hfz16_0, hcz16_1, hfz16_1, hcz16_2, hfz16_2⟩ := bc3_ BK127.out
     go_wp2_with (first | ((with_reducible refine ajz (f := 65) rfl ?_); refine gl_ (some 22) Tryz.func65 #[.agg #[.int .i64 a0_0, .int .i64 a0_1, .int .i64 a0_2]] ?_; (with_reducible refine (aUz.calls a0_0 a0_1 a0_2 t129 t130 _ A13.out).mono ?_); rintro e w17 ⟨rfl, hb⟩; refine ⟨_, rfl, ?_⟩; have n_ := And.intro (bb_ BK127 hb) (hs_ HB hb); clear BK127 HB; obtain ⟨BK127, HB⟩ := n_; (try clear hb); obtain ⟨hcz18_0, hfz18_0, hcz18_1, hfz18_1, hcz18_2, hfz18_2⟩ := bc3_ BK127.out))
     go_ret2
     exact ⟨by first | rfl | (simp [bhz, biz] <;> rfl) | (simp only [← hji15]; first | rfl | (simp [bhz, biz] <;> rfl)) | (simp [*, bhz, biz] <;> rfl), bl_⟩
end Go.Proofs.YtelcllhibpnneaaGreat.XCo
end
section
namespace Go.Proofs.YtelcllhibpnneaaGreat.XCo
open Go.RowKit Go.Proofs.YtelcllhibpnneaaGreatW.PrintWords Go.Proofs.YtelcllhibpnneaaGreatW.PrintLast Go.Proofs.YtelcllhibpnneaaGreatW.PrintMore
attribute [local go_sem] aGz aHz aMz aNz aCz aDz aIz aJz
set_option linter.unusedVariables false
set_option linter.unusedSimpArgs false
section
variable {F : Fence} {n : Nat} {P : Program}
def SeqN {α : Type} (F : Fence) (n : Nat) (P : Program) (g : Nat) (lb : Array Value) (encs : α → Array Value) (Hd : Nat → α → World → Prop) (Kp : World → World → Prop) (S : List α → Prop) (M : Nat) (w : World) : Prop :=
 ∀ (l : Nat) (J : List α → World → Prop) (W : World), Below w.heap.size w W → (∀ s A B, J s A → A.grownBy B none → J s B) →
  (∀ pre x W1, J pre W1 → Hd pre.length x W1 → pre.length < M → YieldAt F (n - 1) P l (encs x) W1 fun e W' => e = .returned (.bool true) ∧ J (pre ++ [x]) W' ∧ Kp W1 W') →
  J [] W → CallsIn F n P g (#[.func (.yield l) #[] #[]] ++ lb) W fun e W' => (∃ v, e = .returned v) ∧ ∃ xs, S xs ∧ J xs W'
def plainPostN {α : Type} (B : Nat) (Kp : World → World → Prop) (I : List α → World → Prop) (xs : List α) (W : World) : Exit → Act → World → Prop
 | .normal, _, W' => KeepsFrom B W W' ∧ Kp W W' ∧ I xs W'
 | _, _, _ => False
theorem wpIn_range_nth {α : Type} {g : Operand} {ps : Array Tmp} {assign body : Code} {Q : Exit → Act → World → Prop} {a : Act} {w : World}
  (hro : F.round = none) (h1 : 1 ≤ n) {gf : Nat} {lb : Array Value} (hg : a.eval g = .func (.func gf) #[] lb) (hFg : F.fn gf) (eg : ∀ args w, (callFunc gf args).run P w = .ok (.enter gf args) w)
  {encs : α → Array Value} {Hd : Nat → α → World → Prop} {Kp : World → World → Prop} {S : List α → Prop} {M : Nat} {w0 : World} (hseq : SeqN F (n - 1) P gf lb encs Hd Kp S M w0)
  (hKt : ∀ {A B C : World}, Kp A B → Kp B C → Kp A C) (hKb : ∀ (W : World) (l : Nat) (o o' : Obj), w.heap.size ≤ l → W.heap[l]? = some o → o.isCells = false → Kp W (W.putObj l o')) (hb0 : Below w0.heap.size w0 w) (hps : ∀ x, (encs x).size = ps.size)
  (I : List α → World → Prop) (hI : OwnFrom w.heap.size I) (hHd : ∀ m x, OwnFrom w.heap.size (fun (_ : Unit) W => Hd m x W)) (h0 : I [] w) (a₁ : α → Act)
  (hassign : ∀ (l : Nat) (x : α) (W : World) (K : Act → World → Prop), K (a₁ x) W →
   assign.wpIn (F.inRound l) (n - 1 - 1) P (Exit.then K (fun _ _ _ => False)) { tmps := (ps.zip (encs x)).foldl (fun t (p, v) => t.setIfInBounds p v) a.tmps, defers := [] } W)
  (hbody : ∀ (l : Nat) (pre : List α) (x : α) (W : World), I pre W → Hd pre.length x W → pre.length < M → body.wpIn (F.inRound l) (n - 1 - 1) P (plainPostN w.heap.size Kp I (pre ++ [x]) W) (a₁ x) W)
  (hdone : ∀ (D : Nat) (xs : List α) (W : World), w.heap.size ≤ D → S xs → I xs W → W.heap[D]? = some (.deferred (some [])) → Q .normal { a with defers := { target := .collected D, args := #[] } :: a.defers } W) :
  (Code.rangeFunc g ps assign body).wpIn F n P Q a w := by
 refine wpIn_rangeFunc fun fn hfn => ?_
 rw [hro]
 obtain ⟨L, hL⟩ : ∃ L : LoopState → Option Code → Loop, L = fun st pe => { state := st, pending := pe, fn, tmps := a.tmps, params := ps, assign, body, defers := w.heap.size } := ⟨_, rfl⟩
 obtain ⟨V, hV⟩ : ∃ V, (w.alloc (.deferred (some []))).alloc (.loop (L .ready none)) = V := ⟨_, rfl⟩
 have vl : V.heap[w.heap.size + 1]? = some (.loop (L .ready none)) := by
  rw [← hV]; have := World.alloc_heap_new (w.alloc (.deferred (some []))) (.loop (L .ready none)); rwa [World.size_alloc] at this
 have vd : V.heap[w.heap.size]? = some (.deferred (some [])) := by
  rw [← hV]; exact (Below.heap_alloc _ _ _ (by simp)).trans (World.alloc_heap_new w _)
 refine ⟨w.heap.size + 1, [{ target := .collected w.heap.size, args := #[] }], V, { target := .fn (.func gf) lb, args := #[.func (.yield (w.heap.size + 1)) #[] #[]] }, V, gf,
  #[.func (.yield (w.heap.size + 1)) #[] #[]] ++ lb, V, by rw [← hV, hL]; exact run_enterLoop_outer _ _ _ _ _, by simp only [resolve, hg]; simp [go_sem], ?_, by simp [invoke, go_sem, eg], fun _ => h1, ?_⟩
 ·intro f' hf'
  simp [Target.leads] at hf'
  subst hf'
  exact hFg
 refine (hseq (w.heap.size + 1) (fun pre W => (I pre W ∧ w.heap.size + 1 < W.heap.size) ∧ W.heap[w.heap.size + 1]? = some (.loop (L .ready none)) ∧ W.heap[w.heap.size]? = some (.deferred (some []))) V ?_ ?_ ?_ ?_).mono ?_
 ·rw [← hV]; exact hb0.trans ((((Below.refl _ w).alloc (Nat.le_refl _) _).alloc (by simp) _).mono hb0.size)
 ·rintro s A B ⟨⟨i1, i2⟩, i3, i4⟩ hgr
  exact ⟨⟨hI s A B none i1 hgr (fun r e => by cases e), Nat.lt_of_lt_of_le i2 hgr.size⟩, (hgr.block _ i2 (by simp)).trans i3, (hgr.block _ (by omega) (by simp)).trans i4⟩
 ·rintro pre x W ⟨⟨i1, i2⟩, i3, i4⟩ hx hlen
  have hy := run_yield (P := P) (args := encs x) i3 (by rw [hL]; exact hps x)
  rw [hL] at hy
  refine ⟨fn, _, assign, body, hy, roundIn_of_wpIn hfn (hassign _ x W _ ?_)⟩
  refine ⟨_, run_beginRound i3 (by rw [hL]), ?_⟩
  have l2 : (W.putObj (w.heap.size + 1) (.loop { L .ready none with state := .busy })).heap[w.heap.size + 1]? = some (.loop { L .ready none with state := .busy }) := World.putObj_heap_same i2
  have d2 : (W.putObj (w.heap.size + 1) (.loop { L .ready none with state := .busy })).heap[w.heap.size]? = some (.deferred (some [])) := (World.putObj_heap_other (by omega)).trans i4
  have k2 : Kp W (W.putObj (w.heap.size + 1) (.loop { L .ready none with state := .busy })) := hKb _ _ _ _ (by omega) i3 rfl
  refine wpIn_mono (hbody _ pre x _ (hI.putObj _ i1 (by omega) i3 rfl) ((hHd _ x).putObj (s := ()) _ hx (by omega) i3 rfl) hlen) ?_
  rintro e a3 W3 hp
  cases e with
  | normal =>
   obtain ⟨q1, q2, q3⟩ := hp
   have l3 := q1.same _ _ (by omega) l2 rfl
   have d3 := q1.same _ _ (Nat.le_refl _) d2 rfl
   have hr := run_endRound (P := P) none l3
   have hlt := (Array.getElem?_eq_some_iff.1 l3).1
   refine ⟨_, _, hr, rfl, ⟨⟨hI.putObj _ q3 (by omega) l3 rfl, Nat.lt_of_lt_of_le hlt (grownBy_putObj' _ _ _).size⟩, ?_, (World.putObj_heap_other (by omega)).trans d3⟩, hKt (hKt k2 q2) (hKb _ _ _ _ (by omega) l3 rfl)⟩
   rw [World.putObj_heap_same hlt, hL]
   rfl
  | ret => exact hp.elim
  | exit id => exact hp.elim
  | goto t => exact hp.elim
  | panic ch => exact hp.elim
  | outgrown => exact hp.elim
 ·refine ⟨⟨?_, ?_⟩, vl, vd⟩
  ·rw [← hV]; exact hI.alloc _ (hI.alloc _ h0)
  ·rw [← hV]; simp
 ·rintro e W2 ⟨⟨v, rfl⟩, xs, hS, ⟨i1, i2⟩, i3, i4⟩
  exact ⟨none, _, by have := run_endLoop (P := P) i3 (by rw [hL]; simp); rw [hL] at this; exact this, hdone _ xs _ (Nat.le_refl _) hS (hI.putObj _ i1 (by omega) i3 rfl) ((World.putObj_heap_other (by omega)).trans i4)⟩
end
end Go.Proofs.YtelcllhibpnneaaGreat.XCo
end
