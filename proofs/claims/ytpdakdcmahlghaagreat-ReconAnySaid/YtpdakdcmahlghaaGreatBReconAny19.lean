-- Joined by this work's own program (wip/tools/bundle.py) out of its texts: what this claim uses of them. Not trusted: Lean checks it.
import Derived.Test.YtpdakdcmahlghaaGreatBReconAny18
section
namespace Go.Proofs.YtpdakdcmahlghaaGreat.XCo
open Go.RowKit Go.Proofs.YtpdakdcmahlghaaGreatW.PrintWords Go.Proofs.YtpdakdcmahlghaaGreatW.PrintLast Go.Proofs.YtpdakdcmahlghaaGreatW.PrintMore
attribute [local go_sem] aAz aBz aIz aJz atz auz aCz aDz
set_option linter.unusedVariables false
set_option linter.unusedSimpArgs false
def trueN : List Bool → Nat
 | [] => 0
 | b :: l => (if b = true then 1 else 0) + trueN l
theorem trueN_set : ∀ (l : List Bool) (i : Nat), l[i]? = some true → trueN (l.set i false) + 1 = trueN l
 | [], i, h => by simp at h
 | b :: l, 0, h => by
  have : b = true := by simpa using h
  subst this
  show (if false = true then 1 else 0) + trueN l + 1 = (if true = true then 1 else 0) + trueN l
  simp; omega
 | b :: l, i + 1, h => by
  have := trueN_set l i (by simpa using h)
  show (if b = true then 1 else 0) + trueN (l.set i false) + 1 = (if b = true then 1 else 0) + trueN l
  omega
theorem trueN_pos : ∀ (l : List Bool), 0 < trueN l → ∃ j : Nat, l[j]? = some true
 | [], h => by simp [trueN] at h
 | true :: l, _ => ⟨0, rfl⟩
 | false :: l, h => by
  obtain ⟨j, hj⟩ := trueN_pos l (by simpa [trueN] using h)
  exact ⟨j + 1, by simpa using hj⟩
theorem dQz : ∀ n : Nat, trueN (List.replicate n true) = n
 | 0 => rfl
 | n + 1 => by
  rw [List.replicate_succ, trueN, dQz n]
  simp; omega
theorem erz : ∀ (i : Nat) (l : List (List Int)) (hv : List Bool), l.length = hv.length → (thereF i l hv).length = trueN hv
 | i, [], [], _ => rfl
 | i, b :: l, h :: hv, e => by
  have := erz (i + 1) l hv (by simpa using e)
  rw [thereF, trueN]
  by_cases hh : h = true
  ·rw [if_pos hh, if_pos hh, List.length_cons, this]; omega
  ·rw [if_neg hh, if_neg hh, this]; omega
theorem lost_l2 (n L s : Nat) (hn : n ≤ 1000) (hs : s ≤ 1000) (hv : List Bool) (hl : hv.length = n) (t : Nat) (ht : t ≤ 1000) (Q : List Bool → Prop)
  (H : ∀ i, i < n → hv[i]? = some true → ∃ R, Q R ∧ Ev (fun k => afz.l1 k (n : Int) (L : Int) (s : Int) (hv.set i false) (((i + s) % n : Nat) : Int) ((t + 1 : Nat) : Int)) R) :
  ∀ (d i : Nat), i < n → hv[(i + d) % n]? = some true → ∃ R, Q R ∧ Ev (fun k => afz.l2 k (n : Int) (L : Int) (s : Int) hv (i : Int) (t : Int)) R := by
 intro d
 induction d with
 | zero =>
  intro i hi h
  rw [Nat.add_zero, Nat.mod_eq_of_lt hi] at h
  obtain ⟨R, hQ, hE⟩ := H i hi h
  refine ⟨R, hQ, Ev.step (fun k => ?_) hE⟩
  have hrd : rdOf false hv (i : Int) = true := by
   unfold rdOf
   rw [Int.toNat_natCast, List.getD_eq_getElem?_getD, h]; rfl
  rw [afz.l2, if_pos (by omega), if_pos (by omega), if_pos hrd, if_neg (by omega), Int.toNat_natCast, show (i : Int) + (s : Int) = ((i + s : Nat) : Int) by omega, w64 (x := ((i + s : Nat) : Int)) (by omega) (by omega), bHz (by omega), show Int.tmod ((i + s : Nat) : Int) (n : Int) = (((i + s) % n : Nat) : Int) from (Int.ofNat_tmod _ _).symm]
 | succ d ih =>
  intro i hi h
  obtain ⟨b, hb⟩ : ∃ b, hv[i]? = some b := ⟨_, List.getElem?_eq_getElem (by omega)⟩
  have hrd : rdOf false hv (i : Int) = b := by
   unfold rdOf
   rw [Int.toNat_natCast, List.getD_eq_getElem?_getD, hb]; rfl
  cases b with
  | true =>
   obtain ⟨R, hQ, hE⟩ := H i hi hb
   refine ⟨R, hQ, Ev.step (fun k => ?_) hE⟩
   rw [afz.l2, if_pos (by omega), if_pos (by omega), if_pos hrd, if_neg (by omega), Int.toNat_natCast, show (i : Int) + (s : Int) = ((i + s : Nat) : Int) by omega, w64 (x := ((i + s : Nat) : Int)) (by omega) (by omega), bHz (by omega), show Int.tmod ((i + s : Nat) : Int) (n : Int) = (((i + s) % n : Nat) : Int) from (Int.ofNat_tmod _ _).symm]
  | false =>
   have hm : ((i + 1) % n + d) % n = (i + (d + 1)) % n := by
    rw [Nat.mod_add_mod]; congr 1; omega
   obtain ⟨R, hQ, hE⟩ := ih ((i + 1) % n) (Nat.mod_lt _ (by omega)) (by rw [hm]; exact h)
   refine ⟨R, hQ, Ev.step (fun k => ?_) hE⟩
   rw [afz.l2, if_pos (by omega), if_pos (by omega), hrd, if_neg (by decide), if_neg (by omega), bHz (by omega), show Int.tmod ((i + 1 : Nat) : Int) (n : Int) = (((i + 1) % n : Nat) : Int) from (Int.ofNat_tmod _ _).symm]
theorem lost_l1 (n L s : Nat) (hn0 : 0 < n) (hn : n ≤ 1000) (hs : s ≤ 1000) : ∀ (m t : Nat) (hv : List Bool) (i : Nat), t + m = min L n → hv.length = n → trueN hv + t = n → i < n →
  ∃ R, (R.length = n ∧ trueN R + min L n = n) ∧ Ev (fun k => afz.l1 k (n : Int) (L : Int) (s : Int) hv (i : Int) (t : Int)) R := by
 intro m
 induction m with
 | zero =>
  intro t hv i hm hl hc hi
  refine ⟨hv, ⟨hl, by omega⟩, ?_⟩
  have he : Ev (fun k => afz.j2 k (n : Int) (L : Int) (s : Int) hv (i : Int) (t : Int) false) hv := by
   refine Ev.step (f := fun _ => some hv) (fun k => ?_) (Ev.now _)
   rw [afz.j2, if_neg (by decide)]
  refine Ev.step (fun k => ?_) he
  rw [afz.l1]
  by_cases h : (t : Int) < (L : Int)
  ·rw [if_pos h, decide_eq_false (by omega)]
  ·rw [if_neg h]
 | succ m ih =>
  intro t hv i hm hl hc hi
  obtain ⟨j, hj⟩ := trueN_pos hv (by omega)
  have hjn : j < n := by
   have := (List.getElem?_eq_some_iff.1 hj).1
   omega
  obtain ⟨R, hQ, hE⟩ := lost_l2 n L s hn hs hv hl t (by omega) (fun R => R.length = n ∧ trueN R + min L n = n) (fun i' hi' hb => ih (t + 1) (hv.set i' false) ((i' + s) % n) (by omega) (by rw [List.length_set]; exact hl) (by have := trueN_set hv i' hb; omega) (Nat.mod_lt _ hn0)) (j + n - i) i hi
   (by rw [show i + (j + n - i) = j + n by omega, Nat.add_mod_right, Nat.mod_eq_of_lt hjn]; exact hj)
  have he : Ev (fun k => afz.j2 k (n : Int) (L : Int) (s : Int) hv (i : Int) (t : Int) true) R := by
   refine Ev.step (fun k => ?_) hE
   rw [afz.j2, if_pos rfl]
  refine ⟨R, hQ, Ev.step (fun k => ?_) he⟩
  rw [afz.l1, if_pos (by omega), decide_eq_true (by omega)]
theorem lost_l0 (n L f s : Nat) (hn : n ≤ 1000) (R : List Bool) (h : Ev (fun k => afz.l1 k (n : Int) (L : Int) (s : Int) (List.replicate n true) ((f % n : Nat) : Int) ((0 : Nat) : Int)) R) : ∀ (m i : Nat), i + m = n →
  0 < n → Ev (fun k => afz.l0 k (n : Int) (L : Int) (f : Int) (s : Int) (List.replicate i true) (i : Int)) R := by
 intro m
 induction m with
 | zero =>
  intro i hi h0
  obtain rfl : i = n := by omega
  refine Ev.step (fun k => ?_) h
  rw [afz.l0, if_neg (by omega), if_neg (by omega), show Int.tmod (f : Int) (i : Int) = ((f % i : Nat) : Int) from (Int.ofNat_tmod _ _).symm]
  rfl
 | succ m ih =>
  intro i hi h0
  refine Ev.step (fun k => ?_) (ih (i + 1) (by omega) h0)
  rw [afz.l0, if_pos (by omega), if_pos (by rw [List.length_replicate]; omega), bHz (by omega), ← List.replicate_succ']
theorem lost_ev (n L f s : Nat) (hn0 : 0 < n) (hn : n ≤ 1000) (hs : s ≤ 1000) : ∃ hv, (hv.length = n ∧ trueN hv + min L n = n) ∧ Ev (fun k => afz.f k (n : Int) (L : Int) (f : Int) (s : Int)) hv := by
 obtain ⟨R, hQ, hE⟩ := lost_l1 n L s hn0 hn hs (min L n) 0 (List.replicate n true) (f % n) (by omega) (by simp) (by rw [dQz]; omega) (Nat.mod_lt _ hn0)
 exact ⟨R, hQ, Ev.congr (fun _ => rfl) (lost_l0 n L f s hn R hE n 0 (by omega) hn0)⟩
theorem fine_true (p : Int) (K M : Nat) (L : List (List Int)) (hmay : aiz.f p (K : Int) (M : Int) = some true) (hb : K + M ≤ 1000) (hL : L.length = K + M) : bGz.f p (K : Int) (M : Int) L = some true := by
 unfold bGz.f
 rw [hmay, Option.bind_some, if_pos rfl, hL, w64 (by omega) (by omega), show (((K + M : Nat) : Int) == (K : Int) + (M : Int)) = true by simp]
theorem u8_xor (a b : Nat) (ha : a < 256) (hb : b < 256) : Go.bits .xor .u8 (a : Int) (b : Int) = ((a ^^^ b : Nat) : Int) := by
 have h : a ^^^ b < 2 ^ 8 := Nat.xor_lt_two_pow ha hb
 have e : ∀ x : Nat, x < 256 → (BitVec.ofInt 8 (x : Int)).toNat = x := fun x hx => by rw [BitVec.toNat_ofInt]; omega
 show IntKind.u8.wrap ((BitVec.ofInt 8 (a : Int) ^^^ BitVec.ofInt 8 (b : Int)).toNat : Int) = _
 rw [BitVec.toNat_xor, e a ha, e b hb]
 show ((a ^^^ b : Nat) : Int) % 256 = _
 omega
def xorN (a b : List Nat) : List Nat := List.zipWith (fun x y => x ^^^ y) a b
theorem xorB_nat : ∀ (a b : List Nat), (∀ x, x ∈ a → x < 256) → (∀ x, x ∈ b → x < 256) → xorB (a.map fun x : Nat => (x : Int)) (b.map fun x : Nat => (x : Int)) = (xorN a b).map fun x : Nat => (x : Int)
 | [], _, _, _ => by simp [xorB, xorN]
 | _ :: _, [], _, _ => by simp [xorB, xorN]
 | x :: a, y :: b, ha, hb => by
  have h := xorB_nat a b (fun q hq => ha q (List.mem_cons_of_mem _ hq)) (fun q hq => hb q (List.mem_cons_of_mem _ hq))
  unfold xorB xorN at *
  simp only [List.map_cons, List.zipWith_cons_cons]
  rw [h, u8_xor x y (ha x (List.mem_cons_self ..)) (hb y (List.mem_cons_self ..))]
theorem xorN_lt {w : Nat} : ∀ (a b : List Nat), (∀ x, x ∈ a → x < 2 ^ w) → (∀ x, x ∈ b → x < 2 ^ w) → ∀ x, x ∈ xorN a b → x < 2 ^ w := by
 intro a b ha hb x hx
 unfold xorN at hx
 obtain ⟨i, hi, rfl⟩ := List.mem_iff_getElem.1 hx
 rw [List.getElem_zipWith]
 exact Nat.xor_lt_two_pow (ha _ (List.getElem_mem ..)) (hb _ (List.getElem_mem ..))
def pairN : List Nat → List Nat
 | x :: y :: r => (x + 256 * y) :: pairN r
 | _ => []
theorem pair_xor (x y u v : Nat) (hx : x < 256) (hu : u < 256) : (x + 256 * y) ^^^ (u + 256 * v) = (x ^^^ u) + 256 * (y ^^^ v) := by
 have hxu : x ^^^ u < 2 ^ 8 := Nat.xor_lt_two_pow hx hu
 apply Nat.eq_of_testBit_eq
 intro i
 have e : ∀ a b : Nat, b + 256 * a = 2 ^ 8 * a + b := fun a b => by omega
 rw [e, e, e, Nat.testBit_xor, Nat.testBit_two_pow_mul_add _ hx, Nat.testBit_two_pow_mul_add _ hu, Nat.testBit_two_pow_mul_add _ hxu]
 split <;> rw [Nat.testBit_xor]
theorem pairN_xor : ∀ (a b : List Nat), a.length = b.length → (∀ x, x ∈ a → x < 256) → (∀ x, x ∈ b → x < 256) → pairN (xorN a b) = xorN (pairN a) (pairN b)
 | [], [], _, _, _ => rfl
 | [_], [_], _, _, _ => rfl
 | x :: y :: a, u :: v :: b, hl, ha, hb => by
  have h := pairN_xor a b (by simpa using hl) (fun q hq => ha q (by simp [hq])) (fun q hq => hb q (by simp [hq]))
  show ((x ^^^ u) + 256 * (y ^^^ v)) :: pairN (xorN a b) = ((x + 256 * y) ^^^ (u + 256 * v)) :: xorN (pairN a) (pairN b)
  rw [h, pair_xor x y u v (ha x (by simp)) (hb u (by simp))]
 | [], _ :: _, hl, _, _ => by simp at hl
 | _ :: _, [], hl, _, _ => by simp at hl
 | [_], _ :: _ :: _, hl, _, _ => by simp at hl
 | _ :: _ :: _, [_], hl, _, _ => by simp at hl
theorem pairN_lt : ∀ (a : List Nat), (∀ x, x ∈ a → x < 256) → ∀ x, x ∈ pairN a → x < 65536
 | [], _, _, h => by simp [pairN] at h
 | [_], _, _, h => by simp [pairN] at h
 | u :: v :: a, ha, x, h => by
  have h1 := ha u (by simp)
  have h2 := ha v (by simp)
  rcases List.mem_cons.1 (show x ∈ (u + 256 * v) :: pairN a from h) with rfl | h
  ·omega
  ·exact pairN_lt a (fun q hq => ha q (by simp [hq])) x h
def castN (l : List Nat) : List Int := l.map fun x : Nat => (x : Int)
theorem pairN_snoc (x y : Nat) : ∀ (l : List Nat), l.length % 2 = 0 → pairN (l ++ [x, y]) = pairN l ++ [x + 256 * y]
 | [], _ => rfl
 | [_], h => by simp at h
 | u :: v :: l, h => by
  have ih := pairN_snoc x y l (by simp at h; omega)
  show (u + 256 * v) :: pairN (l ++ [x, y]) = (u + 256 * v) :: pairN l ++ [x + 256 * y]
  rw [ih]; rfl
theorem pairN_len : ∀ (l : List Nat), (pairN l).length = l.length / 2
 | [] => rfl
 | [_] => by simp [pairN]
 | u :: v :: l => by
  have ih := pairN_len l
  show (pairN l).length + 1 = (l.length + 2) / 2
  omega
theorem wTo_two (n : List Nat) (hb : ∀ x, x ∈ n → x < 256) : ∀ j, 2 * j ≤ n.length → wTo 2 (castN n) (2 * j) = castN (pairN (n.take (2 * j))) ++ List.replicate (n.length / 2 - j) 0
 | 0, _ => by
  show wTo 2 (castN n) 0 = _
  unfold wTo castN
  simp [pairN]
 | j + 1, hj => by
  have ih := wTo_two n hb j (by omega)
  obtain ⟨x, hx⟩ : ∃ x, n[2 * j]? = some x := ⟨_, List.getElem?_eq_getElem (by omega)⟩
  obtain ⟨y, hy⟩ : ∃ y, n[2 * j + 1]? = some y := ⟨_, List.getElem?_eq_getElem (by omega)⟩
  have hx8 := hb x (List.mem_of_getElem? hx)
  have hy8 := hb y (List.mem_of_getElem? hy)
  have gx : (castN n).getD (2 * j) 0 = (x : Int) := by unfold castN; rw [List.getD_eq_getElem?_getD, List.getElem?_map, hx]; rfl
  have gy : (castN n).getD (2 * j + 1) 0 = (y : Int) := by unfold castN; rw [List.getD_eq_getElem?_getD, List.getElem?_map, hy]; rfl
  have hpl : (castN (pairN (n.take (2 * j)))).length = j := by
   unfold castN
   rw [List.length_map, pairN_len, List.length_take]; omega
  have e1 : wTo 2 (castN n) (2 * j + 1) = castN (pairN (n.take (2 * j))) ++ (x : Int) :: List.replicate (n.length / 2 - (j + 1)) 0 := by
   have e : wTo 2 (castN n) (2 * j + 1) = if (2 * j) % 2 = 0 then (wTo 2 (castN n) (2 * j)).set ((2 * j) / 2) (wrap64 ((castN n).getD (2 * j) 0)) else (wTo 2 (castN n) (2 * j)).set ((2 * j) / 2) (wrap64 ((wTo 2 (castN n) (2 * j)).getD ((2 * j) / 2) 0 + wrap64 (256 * wrap64 ((castN n).getD (2 * j) 0)))) := rfl
   rw [e, if_pos (by omega), ih, gx, show 2 * j / 2 = j by omega, w64 (by omega) (by omega), List.set_append_right _ _ (by omega), hpl, Nat.sub_self, show n.length / 2 - j = (n.length / 2 - (j + 1)) + 1 by omega, List.replicate_succ, List.set_cons_zero]
  have e2 : wTo 2 (castN n) (2 * j + 1 + 1) = if (2 * j + 1) % 2 = 0 then (wTo 2 (castN n) (2 * j + 1)).set ((2 * j + 1) / 2) (wrap64 ((castN n).getD (2 * j + 1) 0)) else (wTo 2 (castN n) (2 * j + 1)).set ((2 * j + 1) / 2) (wrap64 ((wTo 2 (castN n) (2 * j + 1)).getD ((2 * j + 1) / 2) 0 + wrap64 (256 * wrap64 ((castN n).getD (2 * j + 1) 0)))) := rfl
  have hgd : (castN (pairN (n.take (2 * j))) ++ (x : Int) :: List.replicate (n.length / 2 - (j + 1)) 0).getD j 0 = (x : Int) := by
   rw [List.getD_eq_getElem?_getD, List.getElem?_append_right (by omega), hpl, Nat.sub_self]; rfl
  rw [show 2 * (j + 1) = 2 * j + 1 + 1 by omega, e2, if_neg (by omega), e1, gy, show (2 * j + 1) / 2 = j by omega, hgd, w64 (x := (y : Int)) (by omega) (by omega), w64 (x := 256 * (y : Int)) (by omega) (by omega), w64 (x := (x : Int) + 256 * (y : Int)) (by omega) (by omega), List.set_append_right _ _ (by omega), hpl, Nat.sub_self, List.set_cons_zero]
  have e3 : n.take (2 * j + 1 + 1) = n.take (2 * j) ++ [x, y] := by
   rw [List.take_add_one, List.take_add_one, hx, hy]; simp
  rw [e3, pairN_snoc x y _ (by rw [List.length_take]; omega)]
  unfold castN
  simp
theorem words16 (n : List Nat) (hb : ∀ x, x ∈ n → x < 256) (he : n.length % 2 = 0) : wordsF 16 (castN n) = castN (pairN n) := by
 unfold wordsF
 have h := wTo_two n hb (n.length / 2) (by omega)
 rw [show wN 16 = 2 from rfl, show (castN n).length = 2 * (n.length / 2) by unfold castN; rw [List.length_map]; omega, h, Nat.sub_self, List.take_of_length_le (by omega)]
 simp
theorem wTo_one (b : List Int) (hb : ∀ x, x ∈ b → 0 ≤ x ∧ x ≤ 255) : ∀ i, i ≤ b.length → wTo 1 b i = b.take i ++ List.replicate (b.length - i) 0
 | 0, _ => by unfold wTo; simp
 | i + 1, hi => by
  have ih := wTo_one b hb i (by omega)
  obtain ⟨x, hx⟩ : ∃ x, b[i]? = some x := ⟨_, List.getElem?_eq_getElem (by omega)⟩
  have hxb := hb x (List.mem_of_getElem? hx)
  have hg : b.getD i 0 = x := by rw [List.getD_eq_getElem?_getD, hx]; rfl
  have e : wTo 1 b (i + 1) = if i % 1 = 0 then (wTo 1 b i).set (i / 1) (wrap64 (b.getD i 0)) else (wTo 1 b i).set (i / 1) (wrap64 ((wTo 1 b i).getD (i / 1) 0 + wrap64 (256 * wrap64 (b.getD i 0)))) := rfl
  rw [e, if_pos (Nat.mod_one i), ih, hg, Nat.div_one, w64 (by omega) (by omega), List.set_append_right _ _ (by simp; omega), List.take_add_one, hx]
  rw [show i - (b.take i).length = 0 by simp; omega, show b.length - i = (b.length - (i + 1)) + 1 by omega, List.replicate_succ]
  simp
def mapN (f : Nat → Nat) (l : List Nat) : List Nat := l.map f
def mN (wb c : Int) (x : Nat) : Nat := (gmul wb c (x : Int)).toNat
theorem mN_cast {wb : Int} (hw : wb = 8 ∨ wb = 16) (c : Int) (l : List Nat) : (castN l).map (gmul wb c) = castN (mapN (mN wb c) l) := by
 unfold castN mapN
 rw [List.map_map, List.map_map]
 refine List.map_congr_left (fun x _ => ?_)
 have := (a6z hw c (x : Int)).1
 show gmul wb c (x : Int) = ((gmul wb c (x : Int)).toNat : Int)
 omega
theorem fsize8 : fsize 8 = 256 := rfl
theorem fsize16 : fsize 16 = 65536 := rfl
theorem mN_lt8 (c : Int) (x : Nat) : mN 8 c x < 256 := by
 have := a6z (.inl rfl : (8 : Int) = 8 ∨ (8 : Int) = 16) c (x : Int)
 rw [fsize8] at this
 unfold mN; omega
theorem mN_lt16 (c : Int) (x : Nat) : mN 16 c x < 65536 := by
 have := a6z (.inr rfl : (16 : Int) = 8 ∨ (16 : Int) = 16) c (x : Int)
 rw [fsize16] at this
 unfold mN; omega
def flatN : List Nat → List Nat
 | [] => []
 | x :: r => (x % 256) :: (x / 256 % 256) :: flatN r
theorem bytes16 : ∀ (l : List Nat), bytesF 16 (castN l) = castN (flatN l)
 | [] => rfl
 | x :: r => by
  have h3 : bytesF 16 ((x : Int) :: castN r) = byteF 16 (x : Int) ++ bytesF 16 (castN r) := by unfold bytesF; rw [List.flatMap_cons]
  show bytesF 16 ((x : Int) :: castN r) = ((x % 256 : Nat) : Int) :: ((x / 256 % 256 : Nat) : Int) :: castN (flatN r)
  rw [h3, bytes16 r]
  show [(x : Int) % 256, (x : Int) / 256 % 256] ++ _ = _
  simp
theorem bytes8 : ∀ (l : List Nat), (∀ x, x ∈ l → x < 256) → bytesF 8 (castN l) = castN l
 | [], _ => rfl
 | x :: r, h => by
  have h3 : bytesF 8 ((x : Int) :: castN r) = byteF 8 (x : Int) ++ bytesF 8 (castN r) := by unfold bytesF; rw [List.flatMap_cons]
  have hx := h x (List.mem_cons_self ..)
  show bytesF 8 ((x : Int) :: castN r) = (x : Int) :: castN r
  rw [h3, bytes8 r (fun q hq => h q (List.mem_cons_of_mem _ hq))]
  show [(x : Int) % 256] ++ _ = _
  rw [show (x : Int) % 256 = (x : Int) by omega]; rfl
theorem flatN_lt : ∀ (a : List Nat) (x : Nat), x ∈ flatN a → x < 256
 | [], _, h => by simp [flatN] at h
 | u :: a, x, h => by
  rcases List.mem_cons.1 (show x ∈ (u % 256) :: (u / 256 % 256) :: flatN a from h) with rfl | h
  ·omega
  ·rcases List.mem_cons.1 h with rfl | h
   ·omega
   ·exact flatN_lt a x h
def mulN (wb c : Int) (n : List Nat) : List Nat := if wb = 8 then mapN (mN 8 c) n else flatN (mapN (mN 16 c) (pairN n))
theorem mapN_lt8 (c : Int) (n : List Nat) : ∀ x, x ∈ mapN (mN 8 c) n → x < 256 := by
 intro x hx
 obtain ⟨y, -, rfl⟩ := List.mem_map.1 hx
 exact mN_lt8 c y
theorem mulN_lt (wb c : Int) (n : List Nat) : ∀ x, x ∈ mulN wb c n → x < 256 := by
 unfold mulN
 split
 ·exact mapN_lt8 c n
 ·exact flatN_lt _
theorem words8 (n : List Nat) (hb : ∀ x, x ∈ n → x < 256) : wordsF 8 (castN n) = castN n := by
 unfold wordsF
 rw [show wN 8 = 1 from rfl, wTo_one (castN n) (fun x hx => by
  obtain ⟨y, hy, rfl⟩ := List.mem_map.1 hx
  have := hb y hy
  omega) _ (Nat.le_refl _), Nat.sub_self, List.take_length]
 simp
theorem mulB_nat {wb : Int} (hw : wb = 8 ∨ wb = 16) (c : Int) (n : List Nat) (hb : ∀ x, x ∈ n → x < 256) (he : n.length % wN wb = 0) : mulB wb c (castN n) = castN (mulN wb c n) := by
 unfold mulB mulN
 rcases hw with rfl | rfl
 ·rw [words8 n hb, mN_cast (.inl rfl), bytes8 _ (mapN_lt8 c n), if_pos rfl]
 ·rw [words16 n hb he, mN_cast (.inr rfl), bytes16, if_neg (by decide)]
theorem foldB_nat : ∀ (A : List (List Nat)) (a : List Nat), (∀ x, x ∈ a → x < 256) → (∀ r, r ∈ A → ∀ x, x ∈ r → x < 256) → (A.map castN).foldl xorB (castN a) = castN (A.foldl xorN a)
 | [], _, _, _ => rfl
 | r :: A, a, ha, hA => by
  have hr := hA r (List.mem_cons_self ..)
  have ih := foldB_nat A (xorN a r) (xorN_lt (w := 8) a r ha hr) (fun q hq => hA q (List.mem_cons_of_mem _ hq))
  show (A.map castN).foldl xorB (xorB (castN a) (castN r)) = _
  rw [show xorB (castN a) (castN r) = castN (xorN a r) from xorB_nat a r ha hr, ih]; rfl
def dotN (S : Nat) (wb : Int) (c : List Int) (P : List (List Nat)) : List Nat := (List.zipWith (mulN wb) c P).foldl xorN (List.replicate S 0)
theorem zipM_nat {wb : Int} (hw : wb = 8 ∨ wb = 16) : ∀ (c : List Int) (P : List (List Nat)), (∀ r, r ∈ P → (∀ x, x ∈ r → x < 256) ∧ r.length % wN wb = 0) → List.zipWith (mulB wb) c (P.map castN) = (List.zipWith (mulN wb) c P).map castN
 | [], _, _ => by simp
 | _ :: _, [], _ => by simp
 | x :: c, r :: P, h => by
  have hr := h r (List.mem_cons_self ..)
  simp only [List.map_cons, List.zipWith_cons_cons]
  rw [mulB_nat hw x r hr.1 hr.2, zipM_nat hw c P (fun q hq => h q (List.mem_cons_of_mem _ hq))]
theorem eiz {wb : Int} (hw : wb = 8 ∨ wb = 16) (S : Nat) (c : List Int) (P : List (List Nat)) (h : ∀ r, r ∈ P → (∀ x, x ∈ r → x < 256) ∧ r.length % wN wb = 0) : dotV S wb c (P.map castN) = castN (dotN S wb c P) := by
 unfold dotV sumB dotN
 rw [zipM_nat hw c P h, show (List.replicate S (0 : Int)) = castN (List.replicate S 0) by unfold castN; simp]
 refine foldB_nat _ _ (fun x hx => by rw [List.eq_of_mem_replicate hx]; omega) (fun r hr x hx => ?_)
 obtain ⟨i, hi, rfl⟩ := List.mem_iff_getElem.1 hr
 rw [List.getElem_zipWith] at hx
 exact mulN_lt _ _ _ x hx
theorem mN_in8 {c : Int} (h0 : 0 ≤ c) (h1 : c < 256) (x : Nat) (hx : x < 256) : mN 8 c x = gm 7 285 c.toNat x := by
 unfold mN
 rw [gmul_in h0 (by rw [fsize8]; exact h1) (by omega) (by rw [fsize8]; omega)]
 simp [gmN]
theorem mN_in16 {c : Int} (h0 : 0 ≤ c) (h1 : c < 65536) (x : Nat) (hx : x < 65536) : mN 16 c x = gm 15 69643 c.toNat x := by
 unfold mN
 rw [gmul_in h0 (by rw [fsize16]; exact h1) (by omega) (by rw [fsize16]; omega)]
 simp [gmN]
theorem pair_flat : ∀ (l : List Nat), (∀ x, x ∈ l → x < 65536) → pairN (flatN l) = l
 | [], _ => rfl
 | x :: l, hb => by
  have ih := pair_flat l (fun z hz => hb z (List.mem_cons_of_mem _ hz))
  have hx := hb x (List.mem_cons_self ..)
  simp only [flatN, pairN]
  rw [ih]
  congr 1
  omega
theorem flat_pair : ∀ (l : List Nat), l.length % 2 = 0 → (∀ x, x ∈ l → x < 256) → flatN (pairN l) = l
 | [], _, _ => rfl
 | [x], h, _ => by simp at h
 | x :: y :: l, h, hb => by
  have ih := flat_pair l (by simp at h; omega) (fun z hz => hb z (List.mem_cons_of_mem _ (List.mem_cons_of_mem _ hz)))
  have hx := hb x (List.mem_cons_self ..)
  have hy := hb y (List.mem_cons_of_mem _ (List.mem_cons_self ..))
  simp only [pairN, flatN]
  rw [ih, show (x + 256 * y) % 256 = x by omega, show (x + 256 * y) / 256 % 256 = y by omega]
theorem xorN_len2 {S : Nat} {a b : List Nat} (ha : a.length = S) (hb : b.length = S) : (xorN a b).length = S := by simp [xorN, ha, hb]
theorem mulN_len {wb : Int} (hw : wb = 8 ∨ wb = 16) (c : Int) (n : List Nat) (hb : ∀ x, x ∈ n → x < 256) (he : n.length % wN wb = 0) : (mulN wb c n).length = n.length := by
 have h := mulB_len wb c (castN n) (by simpa [castN] using he)
 rw [mulB_nat hw c n hb he] at h
 simpa [castN] using h
theorem castN_inj : ∀ (a b : List Nat), castN a = castN b → a = b
 | [], [], _ => rfl
 | [], _ :: _, h => by simp [castN] at h
 | _ :: _, [], h => by simp [castN] at h
 | x :: a, y :: b, h => by
  have h : (x : Int) :: castN a = (y : Int) :: castN b := h
  injection h with h1 h2
  rw [castN_inj a b h2, show x = y by omega]
theorem eqb_loop (x y : List Int) (n : Nat) (hx : x.length = n) (hy : y.length = n) (hn : n ≤ 100000000) : ∀ (m i : Nat), i + m = n → Ev (fun k => aQz.l0 k x y (n : Int) (i : Int)) (decide (x.drop i = y.drop i)) := by
 intro m
 induction m with
 | zero =>
  intro i hi
  refine Ev.step (f := fun _ => some true) (fun k => ?_) ?_
  ·rw [aQz.l0, if_neg (by omega)]
  ·rw [List.drop_of_length_le (by omega), List.drop_of_length_le (by omega)]
   exact Ev.now _
 | succ m ih =>
  intro i hi
  have hix : i < x.length := by omega
  have hiy : i < y.length := by omega
  have e1 : rd x (i : Int) = x[i] := by unfold rd; rw [Int.toNat_natCast, List.getD_eq_getElem?_getD, List.getElem?_eq_getElem hix]; rfl
  have e2 : rd y (i : Int) = y[i] := by unfold rd; rw [Int.toNat_natCast, List.getD_eq_getElem?_getD, List.getElem?_eq_getElem hiy]; rfl
  have d1 := List.drop_eq_getElem_cons hix
  have d2 := List.drop_eq_getElem_cons hiy
  by_cases h : x[i] = y[i]
  ·refine Ev.step (f := fun k => aQz.l0 k x y (n : Int) ((i + 1 : Nat) : Int)) (fun k => ?_) ?_
   ·rw [aQz.l0, if_pos (by omega), if_pos (by omega), if_pos (by omega), if_pos (by omega), e1, e2, if_pos h, bHz (by omega)]
   ·have := ih (i + 1) (by omega)
    rw [d1, d2]
    rw [show decide (x[i] :: x.drop (i + 1) = y[i] :: y.drop (i + 1)) = decide (x.drop (i + 1) = y.drop (i + 1)) by rw [h]; simp only [List.cons.injEq, true_and]]
    exact this
  ·refine Ev.step (f := fun _ => some false) (fun k => ?_) ?_
   ·rw [aQz.l0, if_pos (by omega), if_pos (by omega), if_pos (by omega), if_pos (by omega), e1, e2, if_neg h]
   ·rw [d1, d2, decide_eq_false (by intro hh; injection hh with h1 _; exact h h1)]
    exact Ev.now _
theorem eqb_ev (x y : List Int) (hx : x.length ≤ 100000000) : Ev (fun k => aQz.f k x y) (decide (x = y)) := by
 by_cases hl : x.length = y.length
 ·have h := eqb_loop x y x.length rfl hl.symm hx x.length 0 (by omega)
  refine Ev.congr (fun k => ?_) (by simpa using h)
  unfold aQz.f
  rw [if_pos (by omega)]
 ·refine Ev.congr (f := fun _ => some false) (fun k => ?_) ?_
  ·unfold aQz.f
   rw [if_neg (by omega)]
  ·rw [decide_eq_false (by rintro rfl; exact hl rfl)]
   exact Ev.now _
theorem eqRows_dec : ∀ (p q : List (List Int)), (∀ x, x ∈ p → x.length ≤ 100000000) → Ev (fun k => eqRows k p q) (decide (p = q))
 | [], [], _ => by simp only [eqRows]; exact Ev.now _
 | [], _ :: _, _ => by simp only [eqRows]; exact Ev.now _
 | _ :: _, [], _ => by simp only [eqRows]; exact Ev.now _
 | x :: xs, y :: ys, h => by
  simp only [eqRows]
  refine Ev.bind (eqb_ev x y (h x (List.mem_cons_self ..))) ?_
  by_cases hxy : x = y
  ·refine Ev.congr (f := fun k => eqRows k xs ys) (fun k => by rw [if_pos (decide_eq_true hxy)]) ?_
   have := eqRows_dec xs ys (fun z hz => h z (List.mem_cons_of_mem _ hz))
   simpa [hxy] using this
  ·refine Ev.congr (f := fun _ => some false) (fun k => by rw [decide_eq_false hxy, if_neg (by decide)]) ?_
   rw [decide_eq_false (by intro hh; injection hh with h1 _; exact hxy h1)]
   exact Ev.now _
theorem eqFunc_dec (p q : List (List Int)) (hl : p.length ≤ 1000000) (h : ∀ x, x ∈ p → x.length ≤ 100000000) : Ev (fun k => eqFunc k p q) (decide (p = q)) := by
 by_cases hpq : p.length = q.length
 ·refine Ev.congr (fun k => ?_) (eqRows_dec p q h)
  unfold eqFunc
  rw [if_pos hpq, if_pos hl]
 ·refine Ev.congr (f := fun _ => some false) (fun k => ?_) ?_
  ·unfold eqFunc
   rw [if_neg hpq]
  ·rw [decide_eq_false (by rintro rfl; exact hpq rfl)]
   exact Ev.now _
theorem ver_dec (p : Int) (K M L : Nat) (data Q : List (List Int)) (hmay : aiz.f p (K : Int) (M : Int) = some true) (hK : data.length = K) (hL : L ≤ 1000000) (hd : L % wN (pbits p) = 0) (hr : ∀ r, r ∈ data → r.length = L) (hQ : Q.length = M) :
  Ev (fun k => cez.f k p (K : Int) (M : Int) (data ++ Q)) (decide (parV L p K M data = Q)) := by
 have h1 := par_ev p K M L data hmay hK hL hd hr
 have hl := c2z L p K M data hmay
 obtain ⟨p1, p2, k1, k2, m1, m2⟩ := boz hmay
 have h2 := eqFunc_dec (parV L p K M data) Q (by omega) (fun x hx => by
  unfold parV at hx
  obtain ⟨c, -, rfl⟩ := List.mem_map.1 hx
  rw [dotV_len hd hr]; omega)
 have ht : (data ++ Q).take K = data := by rw [← hK, List.take_left']; rfl
 have hdr : (data ++ Q).drop K = Q := by rw [← hK, List.drop_left']; rfl
 refine Ev.congr (f := fun k => (amz.f k p (K : Int) (M : Int) data).bind fun t => if t.2 = 0 then eqFunc k t.1 Q else some false) (fun k => ?_) ?_
 ·unfold cez.f
  rw [hmay, Option.bind_some, if_pos rfl, if_pos (by rw [List.length_append, hK, hQ]; omega), Int.toNat_natCast, ht, hdr]
 ·refine Ev.bind h1 ?_
  refine Ev.congr (fun k => ?_) h2
  rw [if_pos rfl]
def posOk (k : Nat) (l : List (List Int)) : Bool := match l[0]? with | some c => decide (c.length = k) && c.all (fun x => decide (0 < x)) | none => false
theorem sp_1_1 : posOk 1 ((sysM 8 1 1).drop 1) = true := by kernel_rfl
theorem sp_1_2 : posOk 1 ((sysM 8 1 2).drop 1) = true := by kernel_rfl
theorem sp_1_3 : posOk 1 ((sysM 8 1 3).drop 1) = true := by kernel_rfl
theorem sp_1_4 : posOk 1 ((sysM 8 1 4).drop 1) = true := by kernel_rfl
theorem sp_2_1 : posOk 2 ((sysM 8 2 1).drop 2) = true := by kernel_rfl
theorem sp_2_2 : posOk 2 ((sysM 8 2 2).drop 2) = true := by kernel_rfl
theorem sp_2_3 : posOk 2 ((sysM 8 2 3).drop 2) = true := by kernel_rfl
theorem sp_2_4 : posOk 2 ((sysM 8 2 4).drop 2) = true := by kernel_rfl
theorem sp_3_1 : posOk 3 ((sysM 8 3 1).drop 3) = true := by kernel_rfl
theorem sp_3_2 : posOk 3 ((sysM 8 3 2).drop 3) = true := by kernel_rfl
theorem sp_3_3 : posOk 3 ((sysM 8 3 3).drop 3) = true := by kernel_rfl
theorem sp_3_4 : posOk 3 ((sysM 8 3 4).drop 3) = true := by kernel_rfl
theorem sp_4_1 : posOk 4 ((sysM 8 4 1).drop 4) = true := by kernel_rfl
theorem sp_4_2 : posOk 4 ((sysM 8 4 2).drop 4) = true := by kernel_rfl
theorem sp_4_3 : posOk 4 ((sysM 8 4 3).drop 4) = true := by kernel_rfl
theorem sp_4_4 : posOk 4 ((sysM 8 4 4).drop 4) = true := by kernel_rfl
theorem sp_5_1 : posOk 5 ((sysM 8 5 1).drop 5) = true := by kernel_rfl
theorem sp_5_2 : posOk 5 ((sysM 8 5 2).drop 5) = true := by kernel_rfl
theorem sp_5_3 : posOk 5 ((sysM 8 5 3).drop 5) = true := by kernel_rfl
theorem sp_5_4 : posOk 5 ((sysM 8 5 4).drop 5) = true := by kernel_rfl
theorem sp_6_1 : posOk 6 ((sysM 8 6 1).drop 6) = true := by kernel_rfl
theorem sp_6_2 : posOk 6 ((sysM 8 6 2).drop 6) = true := by kernel_rfl
theorem sp_6_3 : posOk 6 ((sysM 8 6 3).drop 6) = true := by kernel_rfl
theorem sp_6_4 : posOk 6 ((sysM 8 6 4).drop 6) = true := by kernel_rfl
theorem sp_7_1 : posOk 7 ((sysM 8 7 1).drop 7) = true := by kernel_rfl
theorem sp_7_2 : posOk 7 ((sysM 8 7 2).drop 7) = true := by kernel_rfl
theorem sp_7_3 : posOk 7 ((sysM 8 7 3).drop 7) = true := by kernel_rfl
theorem sp_7_4 : posOk 7 ((sysM 8 7 4).drop 7) = true := by kernel_rfl
theorem sp_8_1 : posOk 8 ((sysM 8 8 1).drop 8) = true := by kernel_rfl
theorem sp_8_2 : posOk 8 ((sysM 8 8 2).drop 8) = true := by kernel_rfl
theorem sp_8_3 : posOk 8 ((sysM 8 8 3).drop 8) = true := by kernel_rfl
theorem sp_8_4 : posOk 8 ((sysM 8 8 4).drop 8) = true := by kernel_rfl
theorem sp (K M : Nat) (h1 : 1 ≤ K) (h2 : K ≤ 8) (h3 : 1 ≤ M) (h4 : M ≤ 4) : posOk K ((sysM 8 K M).drop K) = true := by
 have hk : K = 1 ∨ K = 2 ∨ K = 3 ∨ K = 4 ∨ K = 5 ∨ K = 6 ∨ K = 7 ∨ K = 8 := by omega
 have hm : M = 1 ∨ M = 2 ∨ M = 3 ∨ M = 4 := by omega
 rcases hk with rfl | rfl | rfl | rfl | rfl | rfl | rfl | rfl <;> rcases hm with rfl | rfl | rfl | rfl
 ·exact sp_1_1
 ·exact sp_1_2
 ·exact sp_1_3
 ·exact sp_1_4
 ·exact sp_2_1
 ·exact sp_2_2
 ·exact sp_2_3
 ·exact sp_2_4
 ·exact sp_3_1
 ·exact sp_3_2
 ·exact sp_3_3
 ·exact sp_3_4
 ·exact sp_4_1
 ·exact sp_4_2
 ·exact sp_4_3
 ·exact sp_4_4
 ·exact sp_5_1
 ·exact sp_5_2
 ·exact sp_5_3
 ·exact sp_5_4
 ·exact sp_6_1
 ·exact sp_6_2
 ·exact sp_6_3
 ·exact sp_6_4
 ·exact sp_7_1
 ·exact sp_7_2
 ·exact sp_7_3
 ·exact sp_7_4
 ·exact sp_8_1
 ·exact sp_8_2
 ·exact sp_8_3
 ·exact sp_8_4
theorem cEz : ∀ b, b < 13 → Go.bits .xor .i64 0 ((b : Nat) : Int) = (b : Int) := by decide +kernel
def nOf (r : List Int) : List Nat := r.map Int.toNat
theorem dRz : ∀ (r : List Int), (∀ x, x ∈ r → 0 ≤ x ∧ x ≤ 255) → castN (nOf r) = r
 | [], _ => rfl
 | x :: r, h => by
  have hx := h x (List.mem_cons_self ..)
  have ih := dRz r (fun y hy => h y (List.mem_cons_of_mem _ hy))
  show ((x.toNat : Nat) : Int) :: castN (nOf r) = x :: r
  rw [ih, Int.toNat_of_nonneg hx.1]
theorem nOf_lt (r : List Int) (h : ∀ x, x ∈ r → 0 ≤ x ∧ x ≤ 255) : ∀ x, x ∈ nOf r → x < 256 := by
 intro x hx
 obtain ⟨y, hy, rfl⟩ := List.mem_map.1 hx
 have := h y hy
 omega
theorem nOf_len (r : List Int) : (nOf r).length = r.length := by simp [nOf]
def isBL (l : List (List Int)) (S : Nat) : Prop := ∀ r, r ∈ l → r.length = S ∧ ∀ x, x ∈ r → 0 ≤ x ∧ x ≤ 255
theorem ejz {l : List (List Int)} {S : Nat} (h : isBL l S) : (l.map nOf).map castN = l ∧ ∀ r, r ∈ l.map nOf → r.length = S ∧ ∀ x, x ∈ r → x < 256 := by
 constructor
 ·rw [List.map_map]
  conv => rhs; rw [← List.map_id l]
  exact List.map_congr_left (fun r hr => dRz r (h r hr).2)
 ·intro r hr
  obtain ⟨q, hq, rfl⟩ := List.mem_map.1 hr
  exact ⟨by rw [nOf_len]; exact (h q hq).1, nOf_lt q (h q hq).2⟩
theorem foldN_lt : ∀ (A : List (List Nat)) (a : List Nat), (∀ x, x ∈ a → x < 256) → (∀ r, r ∈ A → ∀ x, x ∈ r → x < 256) → ∀ x, x ∈ A.foldl xorN a → x < 256
 | [], _, h, _ => h
 | r :: rs, a, h, hr => foldN_lt rs (xorN a r) (xorN_lt (w := 8) a r h (hr r (List.mem_cons_self ..))) (fun q hq => hr q (List.mem_cons_of_mem _ hq))
theorem dotN_lt (S : Nat) (wb : Int) (c : List Int) (P : List (List Nat)) : ∀ x, x ∈ dotN S wb c P → x < 256 := by
 unfold dotN
 refine foldN_lt _ _ (fun x hx => ?_) (fun r hr => ?_)
 ·have := List.eq_of_mem_replicate hx
  omega
 ·obtain ⟨i, hi, rfl⟩ := List.mem_iff_getElem.1 hr
  rw [List.getElem_zipWith]
  exact mulN_lt _ _ _
theorem dSz (p : Int) : pbits p = 8 ∨ pbits p = 16 := by unfold pbits; split <;> simp
theorem ekz (p : Int) (K M S : Nat) (data : List (List Int)) (hS : S % wN (pbits p) = 0) (h : isBL data S) : isBL (parV S p K M data) S := by
 obtain ⟨e, hb⟩ := ejz h
 intro r hr
 unfold parV at hr
 obtain ⟨c, -, rfl⟩ := List.mem_map.1 hr
 refine ⟨dotV_len hS (fun r hr => (h r hr).1), ?_⟩
 rw [← e, eiz (dSz p) S c _ (fun r hr => ⟨(hb r hr).2, by rw [(hb r hr).1]; exact hS⟩)]
 intro x hx
 obtain ⟨y, hy, rfl⟩ := List.mem_map.1 hx
 have := dotN_lt _ _ _ _ y hy
 omega
theorem enc_of (p : Int) (K M : Nat) (b : List Int) (hmay : aiz.f p (K : Int) (M : Int) = some true) (hn : b.length ≤ 4096) (data : List (List Int)) (q1 : data.length = K) (q2 : ∀ r, r ∈ data → r.length = sizeN p K b.length) (q4 : Ev (fun k => aMz.f k p (K : Int) (M : Int) b) (data, 0)) :
  Ev (fun k => bpz.f k p (K : Int) (M : Int) b) (data ++ parV (sizeN p K b.length) p K M data, 0) := by
 obtain ⟨p1, p2, k1, k2, m1, m2⟩ := boz hmay
 have h2 := par_ev p K M (sizeN p K b.length) data hmay q1 (by have := ehz p K b.length (by omega) (by omega) hn; omega) (sizeN_even p K b.length) q2
 have hl := c2z (sizeN p K b.length) p K M data hmay
 refine Ev.bind q4 ?_
 refine Ev.congr (f := fun k => (amz.f k p (K : Int) (M : Int) data).bind fun t => if data.length + t.1.length < 5864062014805 then some (data ++ t.1, t.2) else none) (fun k => by dsimp only; rw [if_pos rfl]) ?_
 refine Ev.bind h2 ?_
 refine Ev.congr (fun k => ?_) (Ev.now _)
 dsimp only
 rw [if_pos (by omega)]
def parL1 : List (List (List (List Nat))) := [[[[1]],[[1],[1]],[[1],[1],[1]],[[1],[1],[1],[1]]],[[[1,1]],[[1,1],[1,143]],[[1,1],[1,70],[1,143]],[[1,1],[1,70],[1,245],[1,143]]],[[[1,1,1]],[[1,1,1],[1,245,244]],[[1,1,1],[1,196,83],[1,245,244]],[[1,1,1],[1,196,83],[1,143,211],[1,245,244]]],[[[1,1,1,1]],[[1,1,1,1],[1,70,143,200]],[[1,1,1,1],[1,217,92,172],[1,70,143,200]],[[1,1,1,1],[1,217,92,172],[1,92,70,123],[1,70,143,200]]],[[[1,1,1,1,1]],[[1,1,1,1,1],[1,166,82,245,167]],[[1,1,1,1,1],[1,156,123,166,244],[1,166,82,245,167]],[[1,1,1,1,1],[1,156,123,166,244],[1,151,212,123,197],[1,166,82,245,167]]],[[[1,1,1,1,1,1]],[[1,1,1,1,1,1],[1,123,245,143,244,142]],[[1,1,1,1,1,1],[1,225,151,172,82,200],[1,123,245,143,244,142]],[[1,1,1,1,1,1],[1,225,151,172,82,200],[1,166,196,238,83,146],[1,123,245,143,244,142]]],[[[1,1,1,1,1,1,1]],[[1,1,1,1,1,1,1],[1,187,104,210,211,105,186]],[[1,1,1,1,1,1,1],[1,199,210,240,105,121,248],[1,187,104,210,211,105,186]],[[1,1,1,1,1,1,1],[1,199,210,240,105,121,248],[1,70,91,245,56,142,167],[1,187,104,210,211,105,186]]],[[[1,1,1,1,1,1,1,1]],[[1,1,1,1,1,1,1,1],[1,172,70,235,143,34,200,101]],[[1,1,1,1,1,1,1,1],[1,55,39,73,84,181,225,217],[1,172,70,235,143,34,200,101]],[[1,1,1,1,1,1,1,1],[1,55,39,73,84,181,225,217],[1,39,217,161,92,60,172,90],[1,172,70,235,143,34,200,101]]]]
def rowsL1 (k m : Nat) : List (List Nat) := (identM (k + 1)).map nOf ++ (parL1.getD k []).getD m []
theorem j1 : ∀ k, k < 8 → ∀ m, m < 4 → chk 7 285 13 (k + 1) (rowsL1 k m) = true := by decide +kernel
set_option maxRecDepth 100000 in
set_option maxHeartbeats 8000000 in
theorem e1_0_0 : (genM 1 1 1).map nOf = rowsL1 0 0 := by decide +kernel
set_option maxRecDepth 100000 in
set_option maxHeartbeats 8000000 in
theorem e1_0_1 : (genM 1 1 2).map nOf = rowsL1 0 1 := by decide +kernel
set_option maxRecDepth 100000 in
set_option maxHeartbeats 8000000 in
theorem e1_0_2 : (genM 1 1 3).map nOf = rowsL1 0 2 := by decide +kernel
set_option maxRecDepth 100000 in
set_option maxHeartbeats 8000000 in
theorem e1_0_3 : (genM 1 1 4).map nOf = rowsL1 0 3 := by decide +kernel
set_option maxRecDepth 100000 in
set_option maxHeartbeats 8000000 in
theorem e1_1_0 : (genM 1 2 1).map nOf = rowsL1 1 0 := by decide +kernel
set_option maxRecDepth 100000 in
set_option maxHeartbeats 8000000 in
theorem e1_1_1 : (genM 1 2 2).map nOf = rowsL1 1 1 := by decide +kernel
set_option maxRecDepth 100000 in
set_option maxHeartbeats 8000000 in
theorem e1_1_2 : (genM 1 2 3).map nOf = rowsL1 1 2 := by decide +kernel
set_option maxRecDepth 100000 in
set_option maxHeartbeats 8000000 in
theorem e1_1_3 : (genM 1 2 4).map nOf = rowsL1 1 3 := by decide +kernel
set_option maxRecDepth 100000 in
set_option maxHeartbeats 8000000 in
theorem e1_2_0 : (genM 1 3 1).map nOf = rowsL1 2 0 := by decide +kernel
set_option maxRecDepth 100000 in
set_option maxHeartbeats 8000000 in
theorem e1_2_1 : (genM 1 3 2).map nOf = rowsL1 2 1 := by decide +kernel
set_option maxRecDepth 100000 in
set_option maxHeartbeats 8000000 in
theorem e1_2_2 : (genM 1 3 3).map nOf = rowsL1 2 2 := by decide +kernel
set_option maxRecDepth 100000 in
set_option maxHeartbeats 8000000 in
theorem e1_2_3 : (genM 1 3 4).map nOf = rowsL1 2 3 := by decide +kernel
set_option maxRecDepth 100000 in
set_option maxHeartbeats 8000000 in
theorem e1_3_0 : (genM 1 4 1).map nOf = rowsL1 3 0 := by decide +kernel
set_option maxRecDepth 100000 in
set_option maxHeartbeats 8000000 in
theorem e1_3_1 : (genM 1 4 2).map nOf = rowsL1 3 1 := by decide +kernel
set_option maxRecDepth 100000 in
set_option maxHeartbeats 8000000 in
theorem e1_3_2 : (genM 1 4 3).map nOf = rowsL1 3 2 := by decide +kernel
set_option maxRecDepth 100000 in
set_option maxHeartbeats 8000000 in
theorem e1_3_3 : (genM 1 4 4).map nOf = rowsL1 3 3 := by decide +kernel
set_option maxRecDepth 100000 in
set_option maxHeartbeats 8000000 in
theorem e1_4_0 : (genM 1 5 1).map nOf = rowsL1 4 0 := by decide +kernel
set_option maxRecDepth 100000 in
set_option maxHeartbeats 8000000 in
theorem e1_4_1 : (genM 1 5 2).map nOf = rowsL1 4 1 := by decide +kernel
set_option maxRecDepth 100000 in
set_option maxHeartbeats 8000000 in
theorem e1_4_2 : (genM 1 5 3).map nOf = rowsL1 4 2 := by decide +kernel
set_option maxRecDepth 100000 in
set_option maxHeartbeats 8000000 in
theorem e1_4_3 : (genM 1 5 4).map nOf = rowsL1 4 3 := by decide +kernel
set_option maxRecDepth 100000 in
set_option maxHeartbeats 8000000 in
theorem e1_5_0 : (genM 1 6 1).map nOf = rowsL1 5 0 := by decide +kernel
set_option maxRecDepth 100000 in
set_option maxHeartbeats 8000000 in
theorem e1_5_1 : (genM 1 6 2).map nOf = rowsL1 5 1 := by decide +kernel
set_option maxRecDepth 100000 in
set_option maxHeartbeats 8000000 in
theorem e1_5_2 : (genM 1 6 3).map nOf = rowsL1 5 2 := by decide +kernel
set_option maxRecDepth 100000 in
set_option maxHeartbeats 8000000 in
theorem e1_5_3 : (genM 1 6 4).map nOf = rowsL1 5 3 := by decide +kernel
set_option maxRecDepth 100000 in
set_option maxHeartbeats 8000000 in
theorem e1_6_0 : (genM 1 7 1).map nOf = rowsL1 6 0 := by decide +kernel
set_option maxRecDepth 100000 in
set_option maxHeartbeats 8000000 in
theorem e1_6_1 : (genM 1 7 2).map nOf = rowsL1 6 1 := by decide +kernel
set_option maxRecDepth 100000 in
set_option maxHeartbeats 8000000 in
theorem e1_6_2 : (genM 1 7 3).map nOf = rowsL1 6 2 := by decide +kernel
set_option maxRecDepth 100000 in
set_option maxHeartbeats 8000000 in
theorem e1_6_3 : (genM 1 7 4).map nOf = rowsL1 6 3 := by decide +kernel
set_option maxRecDepth 100000 in
set_option maxHeartbeats 8000000 in
theorem e1_7_0 : (genM 1 8 1).map nOf = rowsL1 7 0 := by decide +kernel
set_option maxRecDepth 100000 in
set_option maxHeartbeats 8000000 in
theorem e1_7_1 : (genM 1 8 2).map nOf = rowsL1 7 1 := by decide +kernel
set_option maxRecDepth 100000 in
set_option maxHeartbeats 8000000 in
theorem e1_7_2 : (genM 1 8 3).map nOf = rowsL1 7 2 := by decide +kernel
set_option maxRecDepth 100000 in
set_option maxHeartbeats 8000000 in
theorem e1_7_3 : (genM 1 8 4).map nOf = rowsL1 7 3 := by decide +kernel
theorem e1 (k : Nat) (hk : k < 8) (m : Nat) (hm : m < 4) : (genM 1 (k + 1) (m + 1)).map nOf = rowsL1 k m := by
 have h1 : k = 0 ∨ k = 1 ∨ k = 2 ∨ k = 3 ∨ k = 4 ∨ k = 5 ∨ k = 6 ∨ k = 7 := by omega
 have h2 : m = 0 ∨ m = 1 ∨ m = 2 ∨ m = 3 := by omega
 rcases h1 with rfl | rfl | rfl | rfl | rfl | rfl | rfl | rfl <;> rcases h2 with rfl | rfl | rfl | rfl
 ·exact e1_0_0
 ·exact e1_0_1
 ·exact e1_0_2
 ·exact e1_0_3
 ·exact e1_1_0
 ·exact e1_1_1
 ·exact e1_1_2
 ·exact e1_1_3
 ·exact e1_2_0
 ·exact e1_2_1
 ·exact e1_2_2
 ·exact e1_2_3
 ·exact e1_3_0
 ·exact e1_3_1
 ·exact e1_3_2
 ·exact e1_3_3
 ·exact e1_4_0
 ·exact e1_4_1
 ·exact e1_4_2
 ·exact e1_4_3
 ·exact e1_5_0
 ·exact e1_5_1
 ·exact e1_5_2
 ·exact e1_5_3
 ·exact e1_6_0
 ·exact e1_6_1
 ·exact e1_6_2
 ·exact e1_6_3
 ·exact e1_7_0
 ·exact e1_7_1
 ·exact e1_7_2
 ·exact e1_7_3
theorem chk_1 (K M : Nat) (h1 : 1 ≤ K) (h2 : K ≤ 8) (h3 : 1 ≤ M) (h4 : M ≤ 4) : chk 7 285 13 K ((genM 1 K M).map nOf) = true := by
 obtain ⟨k, rfl⟩ : ∃ k, K = k + 1 := ⟨K - 1, by omega⟩
 obtain ⟨m, rfl⟩ : ∃ m, M = m + 1 := ⟨M - 1, by omega⟩
 rw [e1 k (by omega) m (by omega)]
 exact j1 k (by omega) m (by omega)
def a1z.l0 : Nat → List Int → Int → Option (List Int)
 | 0, _, _ => none
 | k + 1, x1, x3 => if x3 < 6 then (if x1.length < 17592186044416 then (a1z.l0 k (x1 ++ [wrap64 (x3 + 1)]) (wrap64 (x3 + 1))) else (none)) else (some x1)
def a1z.f (k : Nat)  : Option (List Int) := a1z.l0 k ([] : List Int) 0
theorem a1z.ddz : ∀ k, (∀ y0 y1, LeO (a1z.l0 k y0 y1) (a1z.l0 (k + 1) y0 y1))
 | 0 => fun _ _ r h => by simp [a1z.l0] at h
 | k + 1 => by
  have ih0 := a1z.ddz k
  ·intro y0 y1
   unfold a1z.l0
   repeat' first
   | (with_reducible exact ih0 _ _)
   | (with_reducible exact LeO.refl _)
   | (with_reducible exact LeO.none _)
   | (with_reducible refine LeO.ite ?_ ?_)
   | (with_reducible refine LeO.bind ?_ (fun _ => ?_))
   | exact ih0 _ _
   | exact LeO.none _
   | refine LeO.ite ?_ ?_
   | refine LeO.bind ?_ (fun _ => ?_)
theorem a1z.mono : ∀ k, LeO (a1z.f k ) (a1z.f (k + 1) ) := by
 intro  k
 have ih0 := a1z.ddz k
 unfold a1z.f
 repeat' first
   | (with_reducible exact ih0 _ _)
   | (with_reducible exact LeO.refl _)
   | (with_reducible exact LeO.none _)
   | (with_reducible refine LeO.ite ?_ ?_)
   | (with_reducible refine LeO.bind ?_ (fun _ => ?_))
   | exact ih0 _ _
   | exact LeO.none _
   | refine LeO.ite ?_ ?_
   | refine LeO.bind ?_ (fun _ => ?_)
def a8z.l (k : Nat) (l : List (List Int)) (a : Int) : List Int → List Int → Option (List Int)
 | [], acc => some acc
 | p :: ps, acc => (bsz.f k l a p).bind fun b => a8z.l k l a ps (if b = true then acc ++ [p] else acc)
def a8z.f (k : Nat) (l0 : List (List Int)) (a1 : Int) : Option (List Int) := (a1z.f k).bind fun ps => if ps.length ≤ 1000 then a8z.l k l0 a1 ps [] else none
def trial_Pick.f (k : Nat) (l0 : List (List Int)) (a1 : Int) : Option (Int × Int) := (a8z.f k l0 a1).bind fun t171 => (if (t171.length : Int) = 0 then (some (0, 4)) else (if (t171.length : Int) = 1 then (if 0 < (t171.length : Int) then (some (rd t171 0, 0)) else (none)) else (some (0, 6))))
end Go.Proofs.YtpdakdcmahlghaaGreat.XCo
end
section
namespace Go.Proofs.YtpdakdcmahlghaaGreat.XCo
open Go.RowKit Go.Proofs.YtpdakdcmahlghaaGreatW.PrintWords Go.Proofs.YtpdakdcmahlghaaGreatW.PrintLast Go.Proofs.YtpdakdcmahlghaaGreatW.PrintMore
attribute [local go_sem] aAz aBz aIz aJz atz auz aCz aDz
set_option linter.unusedVariables false
set_option linter.unusedSimpArgs false
def fN (wb : Int) : Nat := if wb = 8 then 256 else 65536
theorem fN_fsize {wb : Int} (hw : wb = 8 ∨ wb = 16) : fsize wb = (fN wb : Int) := by rcases hw with rfl | rfl <;> rfl
theorem gmul_cast {wb a b : Int} (ha : 0 ≤ a ∧ a < fsize wb) (hb : 0 ≤ b ∧ b < fsize wb) : gmul wb a b = (gmN wb a.toNat b.toNat : Int) := by
 unfold gmul inF
 rw [if_pos (by simp [ha.1, ha.2, hb.1, hb.2])]
theorem dmz {wb a b : Int} (ha : 0 ≤ a ∧ a < fsize wb) (hb : 0 ≤ b ∧ b < fsize wb) : (gmul wb a b).toNat = gmN wb a.toNat b.toNat := by
 rw [gmul_cast ha hb, Int.toNat_natCast]
section
variable {wb : Int} (hw : wb = 8 ∨ wb = 16)
include hw
theorem b7z : ∃ (m q : Nat) (l : List Nat), GfInv m q l ∧ fN wb = 2 ^ (m + 1) ∧ ∀ a b, gmN wb a b = gm m q a b := by
 rcases hw with rfl | rfl
 ·exact ⟨7, 285, _, gf8, rfl, fun a b => rfl⟩
 ·exact ⟨15, 69643, _, gf16, rfl, fun a b => rfl⟩
theorem gmN_ltN {a : Nat} (b : Nat) (ha : a < fN wb) : gmN wb a b < fN wb := by
 obtain ⟨m, q, l, F, e, h⟩ := b7z hw
 rw [h, e]
 exact F.lt (by rw [← e]; exact ha)
theorem gmN_xl {a c : Nat} (b : Nat) (ha : a < fN wb) (hc : c < fN wb) : gmN wb (a ^^^ c) b = gmN wb a b ^^^ gmN wb c b := by
 obtain ⟨m, q, l, F, e, h⟩ := b7z hw
 rw [e] at ha hc
 rw [h, h, h]
 exact F.cqz ha hc
theorem gmN_xr (a b c : Nat) : gmN wb a (b ^^^ c) = gmN wb a b ^^^ gmN wb a c := by
 obtain ⟨m, q, l, F, e, h⟩ := b7z hw
 rw [h, h, h]
 exact Gf.cgz a b c
theorem gmN_comm {a b : Nat} (ha : a < fN wb) (hb : b < fN wb) : gmN wb a b = gmN wb b a := by
 obtain ⟨m, q, l, F, e, h⟩ := b7z hw
 rw [e] at ha hb
 rw [h, h]
 exact F.comm ha hb
theorem gmN_asc {a b : Nat} (ha : a < fN wb) (hb : b < fN wb) (c : Nat) : gmN wb (gmN wb a b) c = gmN wb a (gmN wb b c) := by
 obtain ⟨m, q, l, F, e, h⟩ := b7z hw
 rw [e] at ha hb
 rw [h, h, h, h]
 exact F.assoc ha hb c
theorem gmN_id {a : Nat} (ha : a < fN wb) : gmN wb a 1 = a := by
 obtain ⟨m, q, l, F, e, h⟩ := b7z hw
 rw [e] at ha
 rw [h]
 exact F.dDz ha
theorem one_ltN : 1 < fN wb := by rcases hw with rfl | rfl <;> decide
theorem gmN_idl {a : Nat} (ha : a < fN wb) : gmN wb 1 a = a := by rw [gmN_comm hw (one_ltN hw) ha, gmN_id hw ha]
theorem gmN_zl (a : Nat) : gmN wb 0 a = 0 := by
 obtain ⟨m, q, l, F, e, h⟩ := b7z hw
 rw [h]
 exact Gf.crz a
theorem b8z (a : Nat) : gmN wb a 0 = 0 := by
 obtain ⟨m, q, l, F, e, h⟩ := b7z hw
 rw [h]
 exact Gf.bkz a
theorem xor_ltN {a b : Nat} (ha : a < fN wb) (hb : b < fN wb) : a ^^^ b < fN wb := by
 obtain ⟨m, q, l, F, e, h⟩ := b7z hw
 rw [e] at ha hb ⊢
 exact Nat.xor_lt_two_pow ha hb
theorem bgz {a : Int} (ha : 0 ≤ a ∧ a < fsize wb) : a.toNat < fN wb := by
 have := fN_fsize hw
 omega
theorem bx_toNat {a b : Int} (ha : 0 ≤ a ∧ a < fsize wb) (hb : 0 ≤ b ∧ b < fsize wb) : (Go.bits .xor .i64 a b).toNat = a.toNat ^^^ b.toNat := by
 obtain ⟨x, rfl⟩ : ∃ x : Nat, a = x := ⟨a.toNat, by omega⟩
 obtain ⟨y, rfl⟩ : ∃ y : Nat, b = y := ⟨b.toNat, by omega⟩
 rcases c7z hw with ⟨e, -⟩ | ⟨e, -⟩ <;> rw [e] at ha hb
 ·rw [cPz x y (by omega) (by omega)]; simp
 ·rw [cPz x y (by omega) (by omega)]; simp
theorem gmN_inv {a : Nat} (ha : a < fN wb) (h0 : a ≠ 0) : gmN wb a (ginv wb (a : Int)).toNat = 1 := by
 have e : (ginv wb (a : Int)).toNat = gpwN wb a (fsize wb - 2).toNat := by
  have hin : inF wb (a : Int) = true := by
   unfold inF
   rw [decide_eq_true (by omega), decide_eq_true (by rw [fN_fsize hw]; omega)]
   rfl
  have hb : ((a : Int) != 0) = true := by simpa using h0
  have hf : decide ((0 : Int) ≤ fsize wb - 2) = true := by rcases hw with rfl | rfl <;> rfl
  unfold ginv
  rw [hin, hb, if_pos (by decide)]
  unfold gpow
  rw [hin, hf, if_pos (by decide), Int.toNat_natCast, Int.toNat_natCast]
 rw [e]
 rcases hw with rfl | rfl
 ·exact gf8.inv_left (m := 7) (by exact ha) h0
 ·exact gf16.inv_left (m := 15) (by exact ha) h0
end
theorem xor4 (a b c d : Nat) : (a ^^^ b) ^^^ (c ^^^ d) = (a ^^^ c) ^^^ (b ^^^ d) := by
 rw [Nat.xor_assoc, Nat.xor_assoc, ← Nat.xor_assoc b, ← Nat.xor_assoc c, Nat.xor_comm b]
def evN (wb : Int) : List Int → List Nat → Nat
 | x :: r, y :: v => gmN wb x.toNat y ^^^ evN wb r v
 | _, _ => 0
theorem evN_nil (wb : Int) (r : List Int) : evN wb r [] = 0 := by cases r <;> rfl
theorem evN_app {wb : Int} : ∀ (r : List Int) (u b : List Nat), u.length ≤ r.length → evN wb r (u ++ b) = evN wb r u ^^^ evN wb (r.drop u.length) b
 | r, [], b, _ => by simp [evN_nil]
 | [], _ :: _, _, h => by simp at h
 | x :: r, y :: u, b, h => by
  have ih := evN_app (wb := wb) r u b (by simpa using h)
  show gmN wb x.toNat y ^^^ evN wb r (u ++ b) = (gmN wb x.toNat y ^^^ evN wb r u) ^^^ evN wb (r.drop u.length) b
  rw [ih, Nat.xor_assoc]
section
variable {wb : Int} (hw : wb = 8 ∨ wb = 16)
include hw
theorem evN_clr {n : Int} (hn : 0 ≤ n ∧ n < fsize wb) : ∀ (r p : List Int) (v : List Nat), r.length = p.length → (∀ x, x ∈ r → 0 ≤ x ∧ x < fsize wb) → (∀ x, x ∈ p → 0 ≤ x ∧ x < fsize wb) →
  evN wb (List.zipWith (clrF wb n) r p) v = evN wb r v ^^^ gmN wb n.toNat (evN wb p v)
 | [], [], v, _, _, _ => by simp [evN, b8z hw]
 | [], _ :: _, _, h, _, _ => by simp at h
 | _ :: _, [], _, h, _, _ => by simp at h
 | x :: r, y :: p, [], _, _, _ => by simp [evN, b8z hw]
 | x :: r, y :: p, z :: v, h, hr, hp => by
  have ih := evN_clr hn r p v (by simpa using h) (fun x hx => hr x (List.mem_cons_of_mem _ hx)) (fun x hx => hp x (List.mem_cons_of_mem _ hx))
  have hx := hr x (List.mem_cons_self ..)
  have hy := hp y (List.mem_cons_self ..)
  show gmN wb (clrF wb n x y).toNat z ^^^ evN wb (List.zipWith (clrF wb n) r p) v = (gmN wb x.toNat z ^^^ evN wb r v) ^^^ gmN wb n.toNat (gmN wb y.toNat z ^^^ evN wb p v)
  have e : (clrF wb n x y).toNat = x.toNat ^^^ gmN wb n.toNat y.toNat := by
   unfold clrF
   rw [bx_toNat hw hx (a6z hw _ _), dmz hn hy]
  rw [ih, e, gmN_xl hw z (bgz hw hx) (gmN_ltN hw _ (bgz hw hn)), gmN_asc hw (bgz hw hn) (bgz hw hy), gmN_xr hw, xor4]
theorem evN_scl {c : Int} (hc : 0 ≤ c ∧ c < fsize wb) : ∀ (p : List Int) (v : List Nat), (∀ x, x ∈ p → 0 ≤ x ∧ x < fsize wb) →
  evN wb (List.zipWith (fun x _ => gmul wb x c) p p) v = gmN wb c.toNat (evN wb p v)
 | [], v, _ => by simp [evN, b8z hw]
 | x :: p, [], _ => by simp [evN, b8z hw]
 | x :: p, z :: v, hp => by
  have ih := evN_scl hc p v (fun x hx => hp x (List.mem_cons_of_mem _ hx))
  have hx := hp x (List.mem_cons_self ..)
  show gmN wb (gmul wb x c).toNat z ^^^ evN wb (List.zipWith (fun x _ => gmul wb x c) p p) v = gmN wb c.toNat (gmN wb x.toNat z ^^^ evN wb p v)
  rw [ih, dmz hx hc, gmN_xr hw, gmN_comm hw (bgz hw hx) (bgz hw hc), gmN_asc hw (bgz hw hc) (bgz hw hx)]
theorem evN_off : ∀ (r : List Int) (v : List Nat), (∀ j, j < v.length → r.getD j 0 = 0 ∨ v.getD j 0 = 0) → evN wb r v = 0
 | [], v, _ => rfl
 | x :: r, [], _ => rfl
 | x :: r, y :: v, h => by
  have ih := evN_off r v (fun j hj => by simpa using h (j + 1) (by simpa using hj))
  have h0 := h 0 (by simp)
  show gmN wb x.toNat y ^^^ evN wb r v = 0
  rw [ih]
  rcases h0 with h0 | h0
  ·have : x = 0 := by simpa using h0
   rw [this]; simp [gmN_zl hw]
  ·have : y = 0 := by simpa using h0
   rw [this]; simp [b8z hw]
theorem evN_at : ∀ (r : List Int) (v : List Nat) (i : Nat), i < v.length → v.getD i 0 < fN wb → r.getD i 0 = 1 → (∀ j, j < v.length → j ≠ i → r.getD j 0 = 0 ∨ v.getD j 0 = 0) → evN wb r v = v.getD i 0
 | [], v, i, _, _, h1, _ => by simp at h1
 | x :: r, [], i, h, _, _, _ => by simp at h
 | x :: r, y :: v, 0, _, hv, h1, h => by
  have ih := evN_off hw r v (fun j hj => by simpa using h (j + 1) (by simpa using hj) (by omega))
  have e1 : x = 1 := by simpa using h1
  have hv' : y < fN wb := by simpa using hv
  show gmN wb x.toNat y ^^^ evN wb r v = y
  rw [ih, e1]
  show gmN wb 1 y ^^^ 0 = y
  rw [gmN_idl hw hv', Nat.xor_zero]
 | x :: r, y :: v, i + 1, hi, hv, h1, h => by
  have ih := evN_at r v i (by simpa using hi) (by simpa using hv) (by simpa using h1) (fun j hj hne => by simpa using h (j + 1) (by simpa using hj) (by omega))
  have h0 := h 0 (by simp) (by omega)
  show gmN wb x.toNat y ^^^ evN wb r v = v.getD i 0
  rw [ih]
  rcases h0 with h0 | h0
  ·have : x = 0 := by simpa using h0
   rw [this]
   show gmN wb 0 y ^^^ _ = _
   rw [gmN_zl hw, Nat.zero_xor]
  ·have : y = 0 := by simpa using h0
   rw [this, b8z hw, Nat.zero_xor]
theorem evN_two : ∀ (r : List Int) (v : List Nat) (i c : Nat), i < c → c < v.length → r.getD i 0 = 1 → v.getD c 0 = 1 → (v.getD i 0 = (r.getD c 0).toNat) → (0 ≤ r.getD c 0 ∧ r.getD c 0 < fsize wb) → (∀ j, j < v.length → j ≠ i → j ≠ c → r.getD j 0 = 0 ∨ v.getD j 0 = 0) → evN wb r v = 0
 | [], v, i, c, _, _, h1, _, _, _, _ => by simp at h1
 | x :: r, [], i, c, _, h, _, _, _, _, _ => by simp at h
 | x :: r, y :: v, 0, c + 1, _, hc, h1, h2, h3, h4, h => by
  have e1 : x = 1 := by simpa using h1
  have e2 : v.getD c 0 = 1 := by simpa using h2
  have e3 : y = (r.getD c 0).toNat := by simpa using h3
  have e4 : 0 ≤ r.getD c 0 ∧ r.getD c 0 < fsize wb := by simpa using h4
  have hlt := bgz hw e4
  show gmN wb x.toNat y ^^^ evN wb r v = 0
  have key : ∀ (r : List Int) (v : List Nat) (c : Nat), c < v.length → v.getD c 0 = 1 → (0 ≤ r.getD c 0 ∧ r.getD c 0 < fsize wb) → (∀ j, j < v.length → j ≠ c → r.getD j 0 = 0 ∨ v.getD j 0 = 0) → evN wb r v = (r.getD c 0).toNat := by
   intro r
   induction r with
   | nil => intro v c _ _ _ _; simp [evN]
   | cons x r ih =>
    intro v c hc h1 h2 h
    cases v with
    | nil => simp at hc
    | cons y v =>
     cases c with
     | zero =>
      have := evN_off hw r v (fun j hj => by simpa using h (j + 1) (by simpa using hj) (by omega))
      have hy : y = 1 := by simpa using h1
      have hx : 0 ≤ x ∧ x < fsize wb := by simpa using h2
      show gmN wb x.toNat y ^^^ evN wb r v = _
      rw [this, hy, gmN_id hw (bgz hw hx), Nat.xor_zero]
      simp
     | succ c =>
      have ih := ih v c (by simpa using hc) (by simpa using h1) (by simpa using h2) (fun j hj hne => by simpa using h (j + 1) (by simpa using hj) (by omega))
      have h0 := h 0 (by simp) (by omega)
      show gmN wb x.toNat y ^^^ evN wb r v = _
      rw [ih]
      rcases h0 with h0 | h0
      ·have : x = 0 := by simpa using h0
       rw [this]
       show gmN wb 0 y ^^^ _ = _
       rw [gmN_zl hw, Nat.zero_xor]
       simp
      ·have : y = 0 := by simpa using h0
       rw [this, b8z hw, Nat.zero_xor]
       simp
  rw [key r v c (by simpa using hc) e2 e4 (fun j hj hne => by simpa using h (j + 1) (by simpa using hj) (by omega) (by omega)), e1, e3]
  show gmN wb 1 _ ^^^ _ = 0
  rw [gmN_idl hw hlt, Nat.xor_self]
 | x :: r, y :: v, i + 1, c + 1, hic, hc, h1, h2, h3, h4, h => by
  have ih := evN_two r v i c (by omega) (by simpa using hc) (by simpa using h1) (by simpa using h2) (by simpa using h3) (by simpa using h4) (fun j hj hne hnc => by simpa using h (j + 1) (by simpa using hj) (by omega) (by omega))
  have h0 := h 0 (by simp) (by omega) (by omega)
  show gmN wb x.toNat y ^^^ evN wb r v = 0
  rw [ih]
  rcases h0 with h0 | h0
  ·have : x = 0 := by simpa using h0
   rw [this]
   show gmN wb 0 y ^^^ _ = _
   rw [gmN_zl hw, Nat.zero_xor]
  ·have : y = 0 := by simpa using h0
   rw [this, b8z hw, Nat.zero_xor]
 | x :: r, y :: v, i, 0, hic, _, _, _, _, _, _ => by omega
end
theorem idxF_at' {α : Type} (p : α → Bool) : ∀ (l : List α), ¬ idxF p l < 0 → ∃ x, l[(idxF p l).toNat]? = some x ∧ p x = true
 | [], h => by simp [idxF] at h
 | y :: l, h => by
  have h1 := cJz p l
  unfold idxF at h ⊢
  by_cases hp : p y = true
  ·rw [if_pos hp]; exact ⟨y, by simp, hp⟩
  ·rw [if_neg hp] at h ⊢
   by_cases hn : idxF p l < 0
   ·rw [if_pos hn] at h; omega
   ·rw [if_neg hn]
    obtain ⟨x, hx, hpx⟩ := idxF_at' p l hn
    refine ⟨x, ?_, hpx⟩
    rw [show (idxF p l + 1).toNat = (idxF p l).toNat + 1 by omega, List.getElem?_cons_succ]
    exact hx
theorem evN_lt {wb : Int} (hw : wb = 8 ∨ wb = 16) : ∀ (r : List Int) (v : List Nat), (∀ x, x ∈ r → 0 ≤ x ∧ x < fsize wb) → evN wb r v < fN wb
 | [], _, _ => by have := one_ltN hw; simp only [evN]; omega
 | _ :: _, [], _ => by have := one_ltN hw; simp only [evN]; omega
 | x :: r, y :: v, h => xor_ltN hw (gmN_ltN hw _ (bgz hw (h x (List.mem_cons_self ..)))) (evN_lt hw r v (fun z hz => h z (List.mem_cons_of_mem _ hz)))
theorem evN_left (wb : Int) : ∀ (r s : List Int) (v : List Nat), v.length ≤ r.length → evN wb (r ++ s) v = evN wb r v
 | [], s, v, h => by
  have : v = [] := List.length_eq_zero_iff.1 (by simpa using h)
  subst this
  rw [evN_nil, evN_nil]
 | x :: r, s, [], _ => by rw [evN_nil, evN_nil]
 | x :: r, s, y :: v, h => by
  show gmN wb x.toNat y ^^^ evN wb (r ++ s) v = gmN wb x.toNat y ^^^ evN wb r v
  rw [evN_left wb r s v (by simpa using h)]
structure RI (wb : Int) (n : Nat) (u b : List Nat) (c : Nat) (W : List (List Int)) : Prop where
 len : W.length = n
 good : ∀ r, r ∈ W → Good wb (n + n) r
 zero : ∀ r, r ∈ W → evN wb r (u ++ b) = 0
 unit : ∀ i r, W[i]? = some r → ∀ j, j < c → r.getD j 0 = if i = j then 1 else 0
 inj : ∀ v : List Nat, v.length = n → (∀ x, x ∈ v → x < fN wb) → (∀ r, r ∈ W → evN wb r v = 0) → ∀ x, x ∈ v → x = 0
theorem b9z {wb : Int} {L : Nat} {r : List Int} (h : Good wb L r) (j : Nat) : 0 ≤ r.getD j 0 ∧ r.getD j 0 < fsize wb := by
 rw [List.getD_eq_getElem?_getD]
 cases e : r[j]? with
 | none => exact ⟨Int.le_refl _, by show (0 : Int) < _; unfold fsize; split <;> omega⟩
 | some x => exact h.2 x (List.mem_of_getElem? e)
theorem getD_zip (f : Int → Int → Int) (hf : f 0 0 = 0) : ∀ (r p : List Int) (j : Nat), r.length = p.length → (List.zipWith f r p).getD j 0 = f (r.getD j 0) (p.getD j 0)
 | [], [], j, _ => by simp [hf]
 | [], _ :: _, _, h => by simp at h
 | _ :: _, [], _, h => by simp at h
 | x :: r, y :: p, 0, _ => by simp
 | x :: r, y :: p, j + 1, h => by simpa using getD_zip f hf r p j (by simpa using h)
theorem dBz {a b : Int} (ha : 0 ≤ a) (hb : 0 ≤ b) (h : a.toNat = b.toNat) : a = b := by omega
section
variable {wb : Int} (hw : wb = 8 ∨ wb = 16)
include hw
theorem RI.pivot {n c : Nat} {u b : List Nat} {W : List (List Int)} (h : RI wb n u b c W) (hc : c < n) : ¬ idxF (nzB c) (W.drop c) < 0 := by
 intro hneg
 have hany := (cJz (nzB c) (W.drop c)).2.2.1 hneg
 have hz : ∀ i r, W[i]? = some r → c ≤ i → r.getD c 0 = 0 := by
  intro i r hr hi
  have h1 := List.any_eq_false.1 hany r (List.mem_iff_getElem?.2 ⟨i - c, by rw [List.getElem?_drop, show c + (i - c) = i by omega]; exact hr⟩)
  simpa [nzB] using h1
 obtain ⟨v, hv⟩ : ∃ v : List Nat, v = (List.range n).map (fun j => if j < c then ((W.getD j []).getD c 0).toNat else if j = c then 1 else 0) := ⟨_, rfl⟩
 have vlen : v.length = n := by rw [hv]; simp
 have vat : ∀ j, j < n → v.getD j 0 = if j < c then ((W.getD j []).getD c 0).toNat else if j = c then 1 else 0 := by
  intro j hj
  rw [hv, List.getD_eq_getElem?_getD]
  simp [hj]
 have hin : ∀ x, x ∈ v → x < fN wb := by
  intro x hx
  rw [hv] at hx
  obtain ⟨j, hj, rfl⟩ := List.mem_map.1 hx
  have hj : j < n := by simpa using hj
  have p1 := one_ltN hw
  split
  ·obtain ⟨r, hr⟩ : ∃ r, W[j]? = some r := ⟨_, List.getElem?_eq_getElem (by rw [h.len]; exact hj)⟩
   have hWr : W.getD j [] = r := by rw [List.getD_eq_getElem?_getD, hr]; rfl
   rw [hWr]
   exact bgz hw (b9z (h.good r (List.mem_of_getElem? hr)) c)
  ·split <;> omega
 have hall := h.inj v vlen hin (by
  intro r hr
  obtain ⟨i, hi⟩ := List.mem_iff_getElem?.1 hr
  have hil := (List.getElem?_eq_some_iff.1 hi).1
  rw [h.len] at hil
  by_cases hic : i < c
  ·refine evN_two hw r v i c hic (by omega) (by rw [h.unit i r hi i hic, if_pos rfl]) (by rw [vat c hc, if_neg (Nat.lt_irrefl _), if_pos rfl]) (by
    have hWr : W.getD i [] = r := by rw [List.getD_eq_getElem?_getD, hi]; rfl
    rw [vat i hil, if_pos hic, hWr]) (b9z (h.good r hr) c) ?_
   intro j hj hji hjc
   by_cases hjl : j < c
   ·exact .inl (by rw [h.unit i r hi j hjl, if_neg (Ne.symm hji)])
   ·exact .inr (by rw [vat j (by omega), if_neg hjl, if_neg hjc])
  ·refine evN_off hw r v ?_
   intro j hj
   by_cases hjl : j < c
   ·exact .inl (by rw [h.unit i r hi j hjl, if_neg (by omega)])
   ·by_cases hjc : j = c
    ·exact .inl (by rw [hjc]; exact hz i r hi (by omega))
    ·exact .inr (by rw [vat j (by omega), if_neg hjl, if_neg hjc]))
 have h1 : v.getD c 0 = 1 := by rw [vat c hc, if_neg (Nat.lt_irrefl _), if_pos rfl]
 have h2 : v.getD c 0 = 0 := by
  rw [List.getD_eq_getElem?_getD, List.getElem?_eq_getElem (by omega)]
  exact hall _ (List.getElem_mem _)
 omega
theorem RI.step {n c : Nat} {u b : List Nat} {W : List (List Int)} (h : RI wb n u b c W) (hc : c < n) : RI wb n u b (c + 1) (redStep wb c W c).1 ∧ (redStep wb c W c).2 = c + 1 := by
 have hp := h.pivot hw hc
 have hg := ewz hw (n + n) c W c h.good
 revert hg
 unfold redStep
 have hat := idxF_at' (nzB c) (W.drop c) hp
 have hz := cJz (nzB c) (W.drop c)
 generalize idxF (nzB c) (W.drop c) = z at *
 dsimp only
 rw [if_neg hp]
 obtain ⟨pr, hpr, hnz⟩ := hat
 rw [List.getElem?_drop] at hpr
 obtain ⟨k, hk⟩ : ∃ k, c + z.toNat = k := ⟨_, rfl⟩
 rw [hk] at hpr ⊢
 have hkc : c ≤ k := by omega
 obtain ⟨q, hq⟩ : ∃ q, W[c]? = some q := ⟨_, List.getElem?_eq_getElem (by rw [h.len]; exact hc)⟩
 have hsw := cvz W c k q pr hq hpr
 have hsl := cuz W c k
 have hsm := swapL_mem W c k
 generalize swapL W c k = R at *
 have hRc : R[c]? = some pr := by
  rw [hsw]
  by_cases hck : c = k
  ·rw [if_pos hck]; subst hck; rw [← hq, hpr]
  ·rw [if_neg hck, if_pos rfl]
 have hRcD : R.getD c [] = pr := by rw [List.getD_eq_getElem?_getD, hRc]; rfl
 rw [hRcD]
 have hgp := h.good pr (List.mem_of_getElem? hpr)
 have hpc := b9z hgp c
 have hpc0 : pr.getD c 0 ≠ 0 := by simpa [nzB] using hnz
 obtain ⟨a, ha⟩ : ∃ a : Nat, pr.getD c 0 = (a : Int) := ⟨(pr.getD c 0).toNat, by omega⟩
 have haN : a < fN wb := by have := bgz hw hpc; rw [ha] at this; simpa using this
 have hir := efz hw (pr.getD c 0)
 have hinv := gmN_inv hw haN (by omega)
 rw [← ha] at hinv
 obtain ⟨i, hi⟩ : ∃ i, ginv wb (pr.getD c 0) = i := ⟨_, rfl⟩
 rw [hi] at hir hinv ⊢
 have hiN := bgz hw hir
 obtain ⟨p2, hp2⟩ : ∃ p2, List.zipWith (fun x _ => gmul wb x i) pr pr = p2 := ⟨_, rfl⟩
 have e2 : ∀ v, evN wb p2 v = gmN wb i.toNat (evN wb pr v) := fun v => by rw [← hp2]; exact evN_scl hw hir pr v hgp.2
 have d2 : ∀ j, p2.getD j 0 = gmul wb (pr.getD j 0) i := fun j => by rw [← hp2]; exact getD_zip (fun x _ => gmul wb x i) (cXz _ _) pr pr j rfl
 have hgp2 : Good wb (n + n) p2 := by rw [← hp2]; exact zip_good _ hgp hgp (fun x y _ _ => a6z hw _ _)
 rw [hp2]
 have hset : ∀ i, i ≠ c → (R.set c p2)[i]? = R[i]? := fun i hi => by rw [List.getElem?_set_ne (Ne.symm hi)]
 have hsetc : (R.set c p2)[c]? = some p2 := by rw [List.getElem?_set_self (by rw [hsl, h.len]; exact hc)]
 have new : ∀ i r, (clrAll wb c c p2 (R.set c p2))[i]? = some r → (i = c ∧ r = p2) ∨ (i ≠ c ∧ ∃ r0, R[i]? = some r0 ∧ r = List.zipWith (clrF wb (r0.getD c 0)) r0 p2) := by
  intro i r hr
  by_cases hic : i = c
  ·subst hic
   rw [cwz _ _ _ _ _ _ p2 hsetc, if_pos rfl] at hr
   exact .inl ⟨rfl, by injection hr with e; exact e.symm⟩
  ·obtain ⟨r0, hr0⟩ : ∃ r0, R[i]? = some r0 := ⟨_, List.getElem?_eq_getElem (by have := (List.getElem?_eq_some_iff.1 hr).1; rw [byz, List.length_set] at this; exact this)⟩
   rw [cwz _ _ _ _ _ _ r0 (by rw [hset i hic]; exact hr0), if_neg hic] at hr
   exact .inr ⟨hic, r0, hr0, by injection hr with e; exact e.symm⟩
 have old : ∀ i r0, R[i]? = some r0 → i ≠ c → List.zipWith (clrF wb (r0.getD c 0)) r0 p2 ∈ clrAll wb c c p2 (R.set c p2) := by
  intro i r0 hr0 hic
  refine List.mem_iff_getElem?.2 ⟨i, ?_⟩
  rw [cwz _ _ _ _ _ _ r0 (by rw [hset i hic]; exact hr0), if_neg hic]
 have oldc : p2 ∈ clrAll wb c c p2 (R.set c p2) := by
  refine List.mem_iff_getElem?.2 ⟨c, ?_⟩
  rw [cwz _ _ _ _ _ _ p2 hsetc, if_pos rfl]
 have goodR : ∀ i r0, R[i]? = some r0 → Good wb (n + n) r0 := fun i r0 hr0 => h.good r0 (hsm r0 (List.mem_of_getElem? hr0))
 have eclr : ∀ (i : Nat) (r0 : List Int) (v : List Nat), R[i]? = some r0 → evN wb (List.zipWith (clrF wb (r0.getD c 0)) r0 p2) v = evN wb r0 v ^^^ gmN wb (r0.getD c 0).toNat (evN wb p2 v) := by
  intro i r0 v hr0
  have hg0 := goodR i r0 hr0
  exact evN_clr hw (b9z hg0 c) r0 p2 v (hg0.1.trans hgp2.1.symm) hg0.2 hgp2.2
 have prz : ∀ j, j < c → pr.getD j 0 = 0 := fun j hj => by rw [h.unit k pr hpr j hj, if_neg (by omega)]
 have p2z : ∀ j, j < c → p2.getD j 0 = 0 := fun j hj => by rw [d2, prz j hj, cXz]
 have p2c : p2.getD c 0 = 1 := by
  refine dBz (b9z hgp2 c).1 (by omega) ?_
  rw [d2, dmz hpc hir, ha]
  simpa using hinv
 have Runit : ∀ i r0, R[i]? = some r0 → i ≠ c → ∀ j, j < c → r0.getD j 0 = if i = j then 1 else 0 := by
  intro i r0 hr0 hic j hj
  rw [hsw] at hr0
  by_cases hik : i = k
  ·rw [if_pos hik] at hr0
   injection hr0 with e
   subst e
   rw [h.unit c q hq j hj, if_neg (by omega), if_neg (by omega)]
  ·rw [if_neg hik, if_neg hic] at hr0
   exact h.unit i r0 hr0 j hj
 have Rall : ∀ r, r ∈ W → r = pr ∨ ∃ i, i ≠ c ∧ R[i]? = some r := by
  intro r hr
  obtain ⟨i, hi⟩ := List.mem_iff_getElem?.1 hr
  by_cases hik : i = k
  ·subst hik; rw [hpr] at hi; injection hi with e; exact .inl e.symm
  ·by_cases hic : i = c
   ·rw [hic, hq] at hi
    injection hi with e
    subst e
    exact .inr ⟨k, fun e => hik (hic.trans e.symm), by rw [hsw, if_pos rfl]⟩
   ·exact .inr ⟨i, hic, by rw [hsw, if_neg hik, if_neg hic]; exact hi⟩
 intro hg
 refine ⟨⟨hg.2.trans h.len, hg.1, ?_, ?_, ?_⟩, rfl⟩
 ·intro r hr
  obtain ⟨i, hi⟩ := List.mem_iff_getElem?.1 hr
  have z2 : evN wb p2 (u ++ b) = 0 := by rw [e2, h.zero pr (List.mem_of_getElem? hpr), b8z hw]
  rcases new i r hi with ⟨-, rfl⟩ | ⟨-, r0, hr0, rfl⟩
  ·exact z2
  ·rw [eclr i r0 _ hr0, z2, b8z hw, h.zero r0 (hsm r0 (List.mem_of_getElem? hr0))]
   rfl
 ·intro i r hr j hj
  rcases new i r hr with ⟨rfl, rfl⟩ | ⟨hic, r0, hr0, rfl⟩
  ·by_cases hji : j = i
   ·subst hji; rw [p2c, if_pos rfl]
   ·rw [p2z j (by omega), if_neg (fun e => hji e.symm)]
  ·have hg0 := goodR i r0 hr0
   have hc0 := b9z hg0 c
   rw [getD_zip _ (by unfold clrF; rw [dHz]; rfl) r0 p2 j (hg0.1.trans hgp2.1.symm)]
   have hd := b9z hg0 j
   have hd2 := b9z hgp2 j
   have key : (clrF wb (r0.getD c 0) (r0.getD j 0) (p2.getD j 0)).toNat = (r0.getD j 0).toNat ^^^ gmN wb (r0.getD c 0).toNat (p2.getD j 0).toNat := by
    unfold clrF
    rw [bx_toNat hw hd (a6z hw _ _), dmz hc0 hd2]
   have hrng : 0 ≤ clrF wb (r0.getD c 0) (r0.getD j 0) (p2.getD j 0) := by unfold clrF; exact (dLz hw hd (a6z hw _ _)).1
   by_cases hjc : j = c
   ·subst hjc
    rw [if_neg hic]
    refine dBz hrng (by omega) ?_
    rw [key, p2c]
    show _ ^^^ gmN wb _ 1 = 0
    rw [gmN_id hw (bgz hw hd), Nat.xor_self]
   ·have hjl : j < c := by omega
    refine dBz hrng (by split <;> omega) ?_
    rw [key, p2z j hjl]
    show _ ^^^ gmN wb _ 0 = _
    rw [b8z hw, Nat.xor_zero, Runit i r0 hr0 hic j hjl]
 ·intro v hv hin hz0
  refine h.inj v hv hin ?_
  have z2 : evN wb p2 v = 0 := hz0 p2 oldc
  intro r hr
  rcases Rall r hr with rfl | ⟨i, hic, hi⟩
  ·have h1 : gmN wb a (evN wb p2 v) = 0 := by rw [z2, b8z hw]
   have e3 : gmN wb a i.toNat = 1 := hinv
   rw [e2, ← gmN_asc hw haN hiN, e3] at h1
   rwa [gmN_idl hw (evN_lt hw r v hgp.2)] at h1
  ·have h1 := hz0 _ (old i r hi hic)
   rw [eclr i r v hi, z2, b8z hw, Nat.xor_zero] at h1
   exact h1
theorem RI.all {n : Nat} {u b : List Nat} : ∀ (m c : Nat) (W : List (List Int)), RI wb n u b c W → c + m = n → RI wb n u b n (redF wb m c W c).1 ∧ (redF wb m c W c).2 = n
 | 0, c, W, h, e => by
  have : c = n := by omega
  subst this
  exact ⟨h, rfl⟩
 | m + 1, c, W, h, e => by
  have hs := h.step hw (by omega)
  unfold redF
  rw [if_neg (by rw [h.len]; omega), hs.2]
  exact RI.all m (c + 1) _ hs.1 (by omega)
end
def InjN (wb : Int) (n : Nat) (A : List (List Int)) : Prop := ∀ v : List Nat, v.length = n → (∀ x, x ∈ v → x < fN wb) → (∀ r, r ∈ A → evN wb r v = 0) → ∀ x, x ∈ v → x = 0
theorem identM_at (n i : Nat) (hi : i < n) : (identM n)[i]? = some ((List.replicate n 0).set i 1) := by simp [identM, hi]
theorem dTz (n i j : Nat) (hj : j < n) : ((List.replicate n (0 : Int)).set i 1).getD j 0 = if i = j then 1 else 0 := by
 rw [List.getD_eq_getElem?_getD, List.getElem?_set]
 by_cases h : i = j
 ·subst h; simp [hj]
 ·simp [h, hj]
theorem inv_undo {wb : Int} (hw : wb = 8 ∨ wb = 16) (A : List (List Int)) (n : Nat) (hn : A.length = n) (hA : ∀ r, r ∈ A → Good wb n r) (hinj : InjN wb n A) (u b : List Nat) (hu : u.length = n) (huN : ∀ x, x ∈ u → x < fN wb) (hb : b.length = n) (hbN : ∀ x, x ∈ b → x < fN wb) (hub : ∀ i r, A[i]? = some r → evN wb r u = b.getD i 0) :
  (invF wb A).2 = n ∧ ∀ i y, (invF wb A).1[i]? = some y → u.getD i 0 = evN wb (y.drop n) b := by
 have h0 : RI wb n u b 0 (List.zipWith (· ++ ·) A (identM n)) := by
  refine ⟨by rw [List.length_zipWith, aUz, hn, Nat.min_self], dyz hA (cpz wb hw n), ?_, fun i r _ j hj => by omega, ?_⟩
  ·intro r hr
   obtain ⟨i, hi⟩ := List.mem_iff_getElem?.1 hr
   rw [List.getElem?_zipWith] at hi
   obtain ⟨x, hx⟩ : ∃ x, A[i]? = some x := by
    cases e : A[i]? with
    | none => rw [e] at hi; simp at hi
    | some x => exact ⟨x, rfl⟩
   have hil := (List.getElem?_eq_some_iff.1 hx).1
   rw [hn] at hil
   rw [hx, identM_at n i hil] at hi
   have hr' : x ++ (List.replicate n 0).set i 1 = r := by simpa using hi
   have hxl := (hA x (List.mem_of_getElem? hx)).1
   subst hr'
   rw [evN_app _ u b (by simp [hxl, hu]), evN_left wb x _ u (by omega), hub i x hx, hu, List.drop_append_of_le_length (by omega), List.drop_of_length_le (by omega), List.nil_append]
   rw [evN_at hw _ b i (by omega) (by rw [List.getD_eq_getElem?_getD, List.getElem?_eq_getElem (by omega)]; exact hbN _ (List.getElem_mem _)) (by rw [dTz n i i hil, if_pos rfl]) (fun j hj hne => .inl (by rw [dTz n i j (by omega), if_neg (Ne.symm hne)])), Nat.xor_self]
  ·intro v hv hvN hz
   refine hinj v hv hvN ?_
   intro r hr
   obtain ⟨i, hi⟩ := List.mem_iff_getElem?.1 hr
   have hil := (List.getElem?_eq_some_iff.1 hi).1
   rw [hn] at hil
   have h1 := hz (r ++ (List.replicate n 0).set i 1) (List.mem_iff_getElem?.2 ⟨i, by rw [List.getElem?_zipWith, hi, identM_at n i hil]⟩)
   rwa [evN_left wb r _ v (by have := (hA r hr).1; omega)] at h1
 have h1 := RI.all hw n 0 _ h0 (by omega)
 unfold invF
 rw [hn]
 refine ⟨h1.2, fun i y hy => ?_⟩
 have hm := List.mem_of_getElem? hy
 have hz := h1.1.zero y hm
 have hil := (List.getElem?_eq_some_iff.1 hy).1
 rw [h1.1.len] at hil
 have hyl := (h1.1.good y hm).1
 rw [evN_app y u b (by omega), hu] at hz
 rw [evN_at hw y u i (by omega) (by rw [List.getD_eq_getElem?_getD, List.getElem?_eq_getElem (by omega)]; exact huN _ (List.getElem_mem _)) (by rw [h1.1.unit i y hy i hil, if_pos rfl]) (fun j hj hne => .inl (by rw [h1.1.unit i y hy j (by omega), if_neg (Ne.symm hne)]))] at hz
 have := congrArg (· ^^^ evN wb (y.drop n) b) hz
 simpa [Nat.xor_assoc] using this
end Go.Proofs.YtpdakdcmahlghaaGreat.XCo
end
section
namespace Go.Proofs.YtpdakdcmahlghaaGreat.XCo
open Go.RowKit Go.Proofs.YtpdakdcmahlghaaGreatW.PrintWords Go.Proofs.YtpdakdcmahlghaaGreatW.PrintLast Go.Proofs.YtpdakdcmahlghaaGreatW.PrintMore
attribute [local go_sem] aAz aBz aIz aJz atz auz aCz aDz
set_option linter.unusedVariables false
set_option linter.unusedSimpArgs false
def mayQ (q : Int) (K M : Nat) : Bool := aiz.f q (K : Int) (M : Int) == some true
def verB (S : Nat) (q : Int) (K M : Nat) (L : List (List Int)) : Bool := decide (parV S q K M (L.take K) = L.drop K)
def longB (S : Nat) (q : Int) : Bool := decide (0 < S) && decide (S % unitN q = 0)
def passB (S : Nat) (q : Int) (K M : Nat) (L : List (List Int)) : Bool := mayQ q K M && (longB S q && verB S q K M L)
theorem six {q : Int} (h1 : 1 ≤ q) (h2 : q ≤ 6) : q = 1 ∨ q = 2 ∨ q = 3 ∨ q = 4 ∨ q = 5 ∨ q = 6 := by omega
theorem unit_even {q : Int} (h1 : 1 ≤ q) (h2 : q ≤ 6) {S : Nat} (h : S % unitN q = 0) : S % wN (pbits q) = 0 := by
 have one : ∀ p : Int, wN (pbits p) = 1 → S % wN (pbits p) = 0 := fun p hp => by rw [hp]; exact Nat.mod_one S
 rcases six h1 h2 with rfl | rfl | rfl | rfl | rfl | rfl
 ·exact one 1 rfl
 ·have e1 : wN (pbits 2) = 2 := rfl
  have e2 : S % 8 = 0 := h
  rw [e1]
  omega
 ·exact one 3 rfl
 ·exact one 4 rfl
 ·exact one 5 rfl
 ·exact one 6 rfl
theorem size_unit {q : Int} (h1 : 1 ≤ q) (h2 : q ≤ 6) : sizeN q 8 0 = unitN q ∧ aiz.f q ((8 : Nat) : Int) ((1 : Nat) : Int) = some true := by
 rcases six h1 h2 with rfl | rfl | rfl | rfl | rfl | rfl <;> exact ⟨rfl, rfl⟩
theorem long_ev (S : Nat) (q K : Int) (h1 : 1 ≤ q) (h2 : q ≤ 6) (L : List (List Int)) (h0 : 0 < L.length) (hS : (rd_L1 L 0).length = S) : Ev (fun k => bWz.f k L K q) (longB S q) := by
 obtain ⟨e1, e2⟩ := size_unit h1 h2
 have hs := size_ev q 8 1 0 e2 (by omega)
 rw [e1] at hs
 have hu := dAz q
 refine Ev.congr (f := fun k => (aEz.f k q ((8 : Nat) : Int) ((1 : Nat) : Int) ((0 : Nat) : Int)).bind fun bt => if (S : Int) > 0 then (if bt.1 = 0 then none else some (((S : Int) % bt.1) == 0)) else some false) (fun k => ?_) ?_
 ·unfold bWz.f
  rw [if_pos (by omega), hS]
  rfl
 ·refine Ev.bind hs ?_
  refine Ev.congr (f := fun _ => some (longB S q)) (fun k => ?_) (Ev.now _)
  dsimp only
  unfold longB
  by_cases hz : 0 < S
  ·rw [if_pos (by omega), if_neg (by omega), decide_eq_true hz, Bool.true_and]
   congr 1
   have e3 : ((S : Int) % (unitN q : Int)) = ((S % unitN q : Nat) : Int) := by omega
   rw [e3]
   generalize S % unitN q = m
   by_cases hm : m = 0
   ·rw [hm]; rfl
   ·rw [decide_eq_false hm]
    exact beq_eq_false_iff_ne.mpr (by omega)
  ·rw [if_neg (by omega), decide_eq_false hz]
   rfl
theorem pass_ev (q : Int) (K M S : Nat) (h1 : 1 ≤ q) (h2 : q ≤ 6) (L : List (List Int)) (hL : L.length = K + M) (hbig : K + M ≤ 1000000) (h0 : 0 < K + M) (hr : ∀ r, r ∈ L → r.length = S) (hS : S ≤ 1000000) : Ev (fun k => bsz.f k L (K : Int) q) (passB S q K M L) := by
 have hw : wrap64 ((L.length : Int) - (K : Int)) = (M : Int) := by rw [hL]; unfold wrap64; omega
 have hrd : (rd_L1 L 0).length = S := by
  unfold rd_L1
  rw [show Int.toNat 0 = 0 from rfl, List.getD_eq_getElem?_getD, List.getElem?_eq_getElem (by omega)]
  exact hr _ (List.getElem_mem _)
 have hlo := long_ev S q (K : Int) h1 h2 L (by omega) hrd
 refine Ev.congr (f := fun k => (aiz.f q (K : Int) (M : Int)).bind fun t852 => (if t852 = true then ((bWz.f k L (K : Int) q).bind fun t853 => (if t853 = true then ((cez.f k q (K : Int) (M : Int) L).bind fun t854 => (some t854)) else (some false))) else (some false))) (fun k => ?_) ?_
 ·unfold bsz.f cRz.f
  rw [Option.bind_some, hw]
 obtain ⟨b, hb⟩ := may_some q (K : Int) (M : Int)
 unfold passB mayQ
 simp only [hb, Option.bind_some]
 cases b with
 | false => exact Ev.now _
 | true =>
  refine Ev.congr (f := fun k => (bWz.f k L (K : Int) q).bind fun t853 => (if t853 = true then ((cez.f k q (K : Int) (M : Int) L).bind fun t854 => (some t854)) else (some false))) (fun k => by rw [if_pos rfl]) ?_
  refine Ev.bind hlo ?_
  cases hlb : longB S q with
  | false =>
   refine Ev.congr (fun k => ?_) (Ev.now _)
   rw [if_neg (by decide)]
   rfl
  | true =>
   unfold longB at hlb
   simp only [Bool.and_eq_true, decide_eq_true_eq] at hlb
   have hv := ver_dec q K M S (L.take K) (L.drop K) hb (by rw [List.length_take]; omega) hS (unit_even h1 h2 hlb.2) (fun r hr' => hr r (List.mem_of_mem_take hr')) (by rw [List.length_drop]; omega)
   rw [List.take_append_drop] at hv
   refine Ev.congr (f := fun k => (cez.f k q (K : Int) (M : Int) L).bind fun t854 => (some t854)) (fun k => by rw [if_pos rfl]) ?_
   refine Ev.bind hv ?_
   refine Ev.congr (fun k => ?_) (Ev.now _)
   rfl
theorem trial_l_ev (L : List (List Int)) (K : Int) (b : Int → Bool) : ∀ (ps acc : List Int), (∀ q, q ∈ ps → Ev (fun k => bsz.f k L K q) (b q)) → Ev (fun k => a8z.l k L K ps acc) (acc ++ ps.filter b)
 | [], acc, _ => by
  refine Ev.congr (fun k => ?_) (Ev.now _)
  rw [a8z.l]
  simp
 | p :: ps, acc, h => by
  refine Ev.congr (f := fun k => (bsz.f k L K p).bind fun t => a8z.l k L K ps (if t = true then acc ++ [p] else acc)) (fun k => by rw [a8z.l]) ?_
  refine Ev.bind (h p (List.mem_cons_self ..)) ?_
  have ih := trial_l_ev L K b ps (if b p = true then acc ++ [p] else acc) (fun q hq => h q (List.mem_cons_of_mem _ hq))
  cases hp : b p with
  | true =>
   rw [hp, if_pos rfl] at ih
   rw [List.filter_cons_of_pos hp, if_pos rfl]
   rwa [List.append_assoc] at ih
  | false =>
   rw [hp, if_neg (by decide)] at ih
   rw [List.filter_cons_of_neg (by rw [hp]; decide), if_neg (by decide)]
   exact ih
def all6 : List Int := [1, 2, 3, 4, 5, 6]
theorem all_ev : Ev (fun k => a1z.f k) all6 := Ev.of (fun k => a1z.mono k) (k := 8) kr_
theorem all6_mem {q : Int} : q ∈ all6 ↔ 1 ≤ q ∧ q ≤ 6 := by
 unfold all6
 simp only [List.mem_cons, List.not_mem_nil, or_false]
 omega
theorem trial_ev (L : List (List Int)) (K : Int) (b : Int → Bool) (h : ∀ q, 1 ≤ q → q ≤ 6 → Ev (fun k => bsz.f k L K q) (b q)) : Ev (fun k => a8z.f k L K) (all6.filter b) := by
 unfold a8z.f
 refine Ev.bind all_ev ?_
 refine Ev.congr (f := fun k => a8z.l k L K all6 []) (fun k => by rw [if_pos (by decide)]) ?_
 have := trial_l_ev L K b all6 [] (fun q hq => h q (all6_mem.1 hq).1 (all6_mem.1 hq).2)
 rwa [List.nil_append] at this
theorem trial_ev2 (K M S : Nat) (L : List (List Int)) (hL : L.length = K + M) (hbig : K + M ≤ 1000000) (h0 : 0 < K + M) (hr : ∀ r, r ∈ L → r.length = S) (hS : S ≤ 1000000) : Ev (fun k => a8z.f k L (K : Int)) (all6.filter fun q => passB S q K M L) :=
 trial_ev L (K : Int) _ (fun q h1 h2 => pass_ev q K M S h1 h2 L hL hbig h0 hr hS)
theorem bXz {wb : Int} (hw : wb = 8 ∨ wb = 16) {a v : Nat} (ha : a < fN wb) (hv : v < fN wb) (h0 : a ≠ 0) (h : gmN wb a v = 1) : ginv wb (a : Int) = (v : Int) := by
 have hr := efz hw (a : Int)
 obtain ⟨i, hi⟩ : ∃ i : Nat, ginv wb (a : Int) = (i : Int) := ⟨(ginv wb (a : Int)).toNat, by omega⟩
 have h1 := gmN_inv hw ha h0
 rw [hi, Int.toNat_natCast] at h1
 have hil : i < fN wb := by have := bgz hw hr; rw [hi] at this; simpa using this
 have h2 : gmN wb v (gmN wb a i) = v := by rw [h1, gmN_id hw hv]
 rw [← gmN_asc hw hv ha, gmN_comm hw hv ha, h, gmN_idl hw hil] at h2
 rw [hi, h2]
theorem g16_2 : ginv 16 2 = 34821 := bXz (.inr rfl) (a := 2) (v := 34821) (by decide) (by decide) (by decide) (by decide +kernel)
theorem g16_3 : ginv 16 3 = 61446 := bXz (.inr rfl) (a := 3) (v := 61446) (by decide) (by decide) (by decide) (by decide +kernel)
theorem g16_4 : ginv 16 4 = 52231 := bXz (.inr rfl) (a := 4) (v := 52231) (by decide) (by decide) (by decide) (by decide +kernel)
def awake16.b : List Int := [97, 98, 99, 100, 101, 102, 103, 104, 105, 106, 107, 108, 109, 110, 111, 112, 113, 114, 115, 116, 117, 118, 119, 120]
def awake16.l : List (List Int) := [[97, 98, 99, 100, 101, 102, 103, 104], [105, 106, 107, 108, 109, 110, 111, 112], [113, 114, 115, 116, 117, 118, 119, 120], [121, 122, 123, 124, 125, 126, 127, 96], [0, 0, 0, 0, 0, 0, 0, 235]]
theorem c3z (i : Nat) {S : Nat} {q : Int} {K M : Nat} {L : List (List Int)} (h : ((parV S q K M (L.take K))[i]? == (L.drop K)[i]?) = false) : verB S q K M L = false := by
 unfold verB
 refine decide_eq_false (fun he => ?_)
 rw [he] at h
 simp at h
theorem parV_0 (S : Nat) (q : Int) (K M : Nat) (data : List (List Int)) (c : List Int) (h : (parM q K M)[0]? = some c) : (parV S q K M data)[0]? = some (dotV S (pbits q) c data) := by
 unfold parV
 rw [List.getElem?_map, h]
 rfl
theorem awake16.m2 : (parM 2 3 2)[0]? = some [34821, 61446, 52231] := by
 have h : (parM 2 3 2)[0]? = some [ginv 16 2, ginv 16 3, ginv 16 4] := rfl
 rw [h, g16_2, g16_3, g16_4]
theorem awake16.m3 : (parM 2 2 3)[0]? = some [61446, 52231] := by
 have h : (parM 2 2 3)[0]? = some [ginv 16 3, ginv 16 4] := rfl
 rw [h, g16_3, g16_4]
theorem awake16.v2 : verB 8 2 3 2 awake16.l = false := c3z 0 (by rw [parV_0 8 2 3 2 _ _ awake16.m2]; kernel_rfl)
theorem awake16.v3 : verB 8 2 2 3 awake16.l = false := c3z 0 (by rw [parV_0 8 2 2 3 _ _ awake16.m3]; kernel_rfl)
theorem awake16.p1 : passB 8 1 3 2 awake16.l = true := by kernel_rfl
theorem awake16.p5 : verB 8 5 3 2 awake16.l = false := c3z 1 kr_
theorem awake16.p6 : verB 8 6 3 2 awake16.l = false := c3z 1 kr_
theorem awake16.q1 : verB 8 1 2 3 awake16.l = false := c3z 0 kr_
theorem awake16.q5 : verB 8 5 2 3 awake16.l = false := c3z 0 kr_
theorem awake16.q6 : verB 8 6 2 3 awake16.l = false := c3z 0 kr_
theorem cFz {S : Nat} {q : Int} {K M : Nat} {L : List (List Int)} (h : verB S q K M L = false) : passB S q K M L = false := by
 unfold passB
 rw [h, Bool.and_false, Bool.and_false]
theorem awake16.len : ∀ r, r ∈ awake16.l → r.length = 8 := by decide
theorem awake16.t3 : Ev (fun k => a8z.f k awake16.l 3) [1] := by
 have h := trial_ev2 3 2 8 awake16.l rfl (by decide) (by decide) awake16.len (by decide)
 have e : (all6.filter fun q => passB 8 q 3 2 awake16.l) = [1] := by
  unfold all6
  simp only [List.filter_cons, awake16.p1, cFz awake16.v2, cFz awake16.p5, cFz awake16.p6, show passB 8 3 3 2 awake16.l = false from rfl, show passB 8 4 3 2 awake16.l = false from rfl, List.filter_nil]
  rfl
 rw [e] at h
 exact h
theorem awake16.t2 : Ev (fun k => a8z.f k awake16.l 2) [] := by
 have h := trial_ev2 2 3 8 awake16.l rfl (by decide) (by decide) awake16.len (by decide)
 have e : (all6.filter fun q => passB 8 q 2 3 awake16.l) = [] := by
  unfold all6
  simp only [List.filter_cons, cFz awake16.q1, cFz awake16.v3, cFz awake16.q5, cFz awake16.q6, show passB 8 3 2 3 awake16.l = false from rfl, show passB 8 4 2 3 awake16.l = false from rfl, List.filter_nil]
  rfl
 rw [e] at h
 exact h
theorem awake16.t1 : Ev (fun k => a8z.f k [[97], [97]] 1) [5, 6] := by
 have h := trial_ev2 1 1 1 [[97], [97]] rfl (by decide) (by decide) (by decide) (by decide)
 have e : (all6.filter fun q => passB 1 q 1 1 [[97], [97]]) = [5, 6] := by
  unfold all6
  simp only [List.filter_cons, show passB 1 1 1 1 [[97], [97]] = false from rfl, show passB 1 2 1 1 [[97], [97]] = false from rfl, show passB 1 3 1 1 [[97], [97]] = false from rfl, show passB 1 4 1 1 [[97], [97]] = false from rfl, show passB 1 5 1 1 [[97], [97]] = true by kernel_rfl, show passB 1 6 1 1 [[97], [97]] = true by kernel_rfl, List.filter_nil]
  rfl
 rw [e] at h
 exact h
theorem awake16.k3 : Ev (fun k => trial_Pick.f k awake16.l 3) (1, 0) := Ev.bind awake16.t3 (Ev.congr (fun _ => rfl) (Ev.now _))
theorem awake16.k1 : Ev (fun k => trial_Pick.f k [[97], [97]] 1) (0, 6) := Ev.bind awake16.t1 (Ev.congr (fun _ => rfl) (Ev.now _))
theorem awake16.enc : bpz.f 199 1 3 2 awake16.b = some (awake16.l, 0) := by kernel_rfl
end Go.Proofs.YtpdakdcmahlghaaGreat.XCo
end
