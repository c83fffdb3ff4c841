-- Joined by this work's own program (wip/tools/bundle.py) out of its texts: what this claim uses of them. Not trusted: Lean checks it.
import Derived.WideShapes
import Derived.ChangeSlices
import Derived.Test.YtpdakdcmahlghaaGreatBTrialNone13
section
namespace Go.Proofs.YtpdakdcmahlghaaGreat.XCo
open Go.RowKit Go.Proofs.YtpdakdcmahlghaaGreatW.PrintWords Go.Proofs.YtpdakdcmahlghaaGreatW.PrintLast Go.Proofs.YtpdakdcmahlghaaGreatW.PrintMore
attribute [local go_sem] aDz aEz aLz aMz auz avz aFz aGz
set_option linter.unusedVariables false
set_option linter.unusedSimpArgs false
def aoz.g (up : Bool) (n : Nat) (e g h i : Int × Int) : Bool := up && (e.2 == 4) && (g.2 == 4) && (h.2 == 4) && ((n == 0) || (i.2 == 4))
def aoz.f (k : Nat) (l0 : List (List Int)) (a1 : Int) : Option (Bool) :=
 (bgz.f k).bind fun up => (afz.f k l0).bind fun few => if few = true then ((aTz.f k [] a1).bind fun e => (aTz.f k l0 (l0.length : Int)).bind fun g => (aTz.f k l0 0).bind fun h => if l0.length ≤ 1000 then ((aTz.f k (l0 ++ [List.replicate 301 0]) a1).bind fun i => some (aoz.g up l0.length e g h i)) else none) else some up
def ThC (W : World) (x : ThX) : Prop := x.2.2.2.length ≤ x.2.2.1 ∧ (Kd.int .u8).C W x.2.1 x.2.2.2.length x.2.2.2
theorem ThC.below {W W1 : World} {x : ThX} (h : ThC W x) (hb : Below W.heap.size W W1) : ThC W1 x := ⟨h.1, Kd.arz h.2 hb⟩
theorem none_rows_of {w : World} {A : Option Addr} {n : Nat} {rows : List (List Int)} (h : Kd.C (Kd.slice 5 (Kd.int .u8)) w A n rows) : ∃ its : List ThX, its.map (fun x => x.2.2.2) = rows ∧ slK.C w A n its ∧ ∀ x, x ∈ its → ThC w x := by
 obtain ⟨h1, h2, h3⟩ := h
 rcases Nat.eq_zero_or_pos n with rfl | hp
 ·obtain rfl := List.eq_nil_of_length_eq_zero h1
  exact ⟨[], rfl, ⟨rfl, h2, fun hp => absurd hp (Nat.lt_irrefl 0)⟩, fun x hx => by simp at hx⟩
 ·obtain ⟨a, rfl, hc⟩ := h3 hp
  have all : ∀ m, m ≤ n → ∃ its : List ThX, its.map (fun x => x.2.2.2) = rows.take m ∧ ∀ (i : Nat) (x : ThX), its[i]? = some x → w.cell? (a.add (i * 1 + 0)) = some (slE x) ∧ ThC w x := by
   intro m
   induction m with
   | zero => exact fun _ => ⟨[], rfl, fun i r hr => by simp at hr⟩
   | succ m ih =>
    intro hm
    obtain ⟨its, e1, e2⟩ := ih (by omega)
    obtain ⟨r, hr⟩ : ∃ r, rows[m]? = some r := ⟨_, List.getElem?_eq_getElem (by omega)⟩
    obtain ⟨cs, -, ⟨A, c, rfl, k1, k2⟩, k3⟩ := hc m r hr
    have hlen : its.length = m := by
     have := congrArg List.length e1
     rw [List.length_map, List.length_take] at this
     omega
    refine ⟨its ++ [((0, A, c, r) : ThX)], ?_, fun i x hx => ?_⟩
    ·rw [List.map_append, e1, List.take_add_one, hr]
     rfl
    ·by_cases hi : i < its.length
     ·rw [List.getElem?_append_left hi] at hx
      exact e2 i x hx
     ·have hlt := (List.getElem?_eq_some_iff.1 hx).1
      obtain rfl : i = m := by simp at hlt; omega
      rw [List.getElem?_append_right (by omega), hlen, Nat.sub_self] at hx
      obtain rfl : ((0, A, c, r) : ThX) = x := by simpa using hx
      exact ⟨k3 0 _ rfl, k1, k2⟩
  obtain ⟨its, e1, e2⟩ := all n (Nat.le_refl _)
  rw [List.take_of_length_le (by omega)] at e1
  have hlen : its.length = n := by
   have := congrArg List.length e1
   rw [List.length_map] at this
   omega
  refine ⟨its, e1, ⟨hlen, h2, fun _ => ⟨a, rfl, fun j p hj => ⟨[slE p], rfl, rfl, fun i u hu => ?_⟩⟩⟩, fun x hx => ?_⟩
  ·cases i with
   | zero =>
    obtain rfl : slE p = u := by simpa using hu
    exact (e2 j p hj).1
   | succ i => simp at hu
  ·obtain ⟨j, hj⟩ := List.getElem?_of_mem hx
   exact (e2 j x hj).2
theorem none_rows_back {w : World} {A : Option Addr} {n : Nat} {its : List ThX} (h : slK.C w A n its) (hx : ∀ x, x ∈ its → ThC w x) : Kd.C (Kd.slice 5 (Kd.int .u8)) w A n (its.map fun x => x.2.2.2) := by
 obtain ⟨h1, h2, h3⟩ := h
 refine ⟨by rw [List.length_map]; exact h1, h2, fun hp => ?_⟩
 obtain ⟨a, rfl, hc⟩ := h3 hp
 refine ⟨a, rfl, fun j p hj => ?_⟩
 rw [List.getElem?_map] at hj
 obtain ⟨x, hx0, rfl⟩ := Option.map_eq_some_iff.1 hj
 obtain ⟨cs, k1, k2, k3⟩ := hc j x hx0
 obtain rfl : cs = [slE x] := k2
 have := hx x (List.mem_of_getElem? hx0)
 exact ⟨_, rfl, ⟨x.2.1, x.2.2.1, rfl, this.1, this.2⟩, k3⟩
structure N7 (X W : World) (its : List ThX) (o37 o39 o40 o41 : Option Value) : Prop where
 b : Below X.heap.size X W
 l37 : ∀ v, o37 = some v → ∀ k, v.ownBlock = some k → k < W.heap.size
 r37 : o39 = none → ∀ v, o37 = some v → slK.R 34 W X.heap.size (fun _ => True) v []
 r39 : ∀ v, o39 = some v → slK.R 34 W X.heap.size (fun _ => True) v its
 r40 : ∀ v, o40 = some v → (Kd.int .u8).R 5 W X.heap.size (fun _ => True) v (List.replicate 301 0)
 r41 : ∀ v, o41 = some v → ∃ A40 c40, o40 = some (.slice A40 301 c40) ∧ slK.R 34 W X.heap.size (fun k => ∀ u, o37 = some u → some k ≠ u.ownBlock) v [((0, A40, c40, List.replicate 301 0) : ThX)]
theorem N7.start (X : World) (its : List ThX) : N7 X X its none none none none :=
 ⟨Below.refl _ _, fun v h => (by cases h), fun _ v h => (by cases h), fun v h => (by cases h), fun v h => (by cases h), fun v h => (by cases h)⟩
theorem N7.drew {X W : World} {its : List ThX} {o37 o39 o40 o41 : Option Value} (h : N7 X W its o37 o39 o40 o41) : N7 X W.drew its o37 o39 o40 o41 :=
 ⟨a3z h.b, h.l37, fun e v hv => Kd.csz (h.r37 e v hv), fun v hv => Kd.csz (h.r39 v hv), fun v hv => Kd.csz (h.r40 v hv), fun v hv => let ⟨A, c, e1, e2⟩ := h.r41 v hv; ⟨A, c, e1, Kd.csz e2⟩⟩
theorem N7.size {X W : World} {its : List ThX} {o37 o39 o40 o41 : Option Value} (h : N7 X W its o37 o39 o40 o41) : X.heap.size ≤ W.heap.size := h.b.size
theorem N7.lit37 {X W w1 : World} {its : List ThX} {o40 o41 : Option Value} {v : Value} (h : N7 X W its none none o40 o41) (g1 : slK.R 34 w1 X.heap.size (fun _ => True) v []) (g2 : Below X.heap.size X w1) (g3 : W.grownBy w1 none) (g4 : ∃ b, v.ownBlock = some b ∧ W.heap.size ≤ b) : N7 X w1 its (some v) none o40 o41 := by
 refine ⟨g2, fun u hu k hk => ?_, fun _ u hu => by obtain rfl := Option.some.inj hu; exact g1, fun v h => (by cases h), fun v hv => Kd.b1z (h.r40 v hv) g3 (fun _ _ => by simp), fun u hu => ?_⟩
 ·obtain rfl := Option.some.inj hu
  exact Kd.R_lt g1 k hk
 ·obtain ⟨A, c, e1, e2⟩ := h.r41 u hu
  refine ⟨A, c, e1, Kd.b1z (Kd.a0z (Kd.bfz e2) (fun k hk y hy e => ?_)) g3 (fun _ _ => by simp)⟩
  obtain rfl := Option.some.inj hy
  obtain ⟨b, hb, hl⟩ := g4
  rw [hb] at e
  obtain rfl := Option.some.inj e
  have := hk.2.2.1
  omega
theorem N7.fresh {X W : World} {its : List ThX} {o37 o39 o40 o41 : Option Value} (h : N7 X W its o37 o39 o40 o41) : ∀ u, o37 = some u → some W.heap.size ≠ u.ownBlock := fun u hu e => absurd (h.l37 u hu _ e.symm) (Nat.lt_irrefl _)
theorem N7.rep41 (A40 : Option Addr) (c40 : Nat) (W : World) (base : Nat) (okp : Nat → Prop) : Reps (slK.M W base okp) slK.sz [((0, A40, c40, List.replicate 301 0) : ThX)] [.slice A40 301 c40] := by
 refine ⟨rfl, fun j p hp => ?_⟩
 cases j with
 | zero =>
  obtain rfl : ((0, A40, c40, List.replicate 301 0) : ThX) = p := Option.some.inj hp
  show [Value.slice A40 301 c40] = [slE _]
  unfold slE
  rw [List.length_replicate]
 | succ j => exact nomatch (show (none : Option ThX) = some p from hp)
theorem N7.lit41 {X W w1 : World} {its : List ThX} {o37 o39 : Option Value} {A40 : Option Addr} {c40 : Nat} {v : Value} (h : N7 X W its o37 o39 (some (.slice A40 301 c40)) none) (g1 : slK.R 34 w1 X.heap.size (fun k => ∀ u, o37 = some u → some k ≠ u.ownBlock) v [((0, A40, c40, List.replicate 301 0) : ThX)]) (g2 : Below X.heap.size X w1) (g3 : W.grownBy w1 none) : N7 X w1 its o37 o39 (some (.slice A40 301 c40)) (some v) :=
 ⟨g2, fun v hv k hk => Nat.lt_of_lt_of_le (h.l37 v hv k hk) g3.size, fun e v hv => Kd.b1z (h.r37 e v hv) g3 (fun _ _ => by simp), fun v hv => Kd.b1z (h.r39 v hv) g3 (fun _ _ => by simp), fun v hv => Kd.b1z (h.r40 v hv) g3 (fun _ _ => by simp), fun u hu => by obtain rfl := Option.some.inj hu; exact ⟨A40, c40, rfl, g1⟩⟩
theorem N7.make40 {X W w1 : World} {its : List ThX} {o37 o39 : Option Value} {v : Value} (h : N7 X W its o37 o39 none none) (g1 : (Kd.int .u8).R 5 w1 X.heap.size (fun _ => True) v (List.replicate 301 0)) (g2 : Below X.heap.size X w1) (g3 : W.grownBy w1 none) : N7 X w1 its o37 o39 (some v) none :=
 ⟨g2, fun v hv k hk => Nat.lt_of_lt_of_le (h.l37 v hv k hk) g3.size, fun e v hv => Kd.b1z (h.r37 e v hv) g3 (fun _ _ => by simp), fun v hv => Kd.b1z (h.r39 v hv) g3 (fun _ _ => by simp), fun u hu => by obtain rfl := Option.some.inj hu; exact g1, fun v h => (by cases h)⟩
theorem N7.app39 {X W w1 : World} {its : List ThX} {o40 o41 : Option Value} {v v1 : Value} (h : N7 X W its (some v) none o40 o41) (g1 : slK.R 34 w1 X.heap.size (fun _ => True) v1 ([] ++ its)) (g2 : Below X.heap.size X w1) (g3 : W.grownBy w1 v.ownBlock) : N7 X w1 its (some v) (some v1) o40 o41 := by
 refine ⟨g2, fun u hu k hk => Nat.lt_of_lt_of_le (h.l37 u hu k hk) g3.size, fun e => by (cases e), fun u hu => by obtain rfl := Option.some.inj hu; exact g1, fun u hu => Kd.R_over (h.r40 u hu) (h.r37 rfl v rfl) (by decide) g3, fun u hu => ?_⟩
 obtain ⟨A, c, e1, e2⟩ := h.r41 u hu
 exact ⟨A, c, e1, Kd.b1z e2 g3 (fun k hk => hk v rfl)⟩
theorem N7.row41 {X W : World} {its : List ThX} {o37 o39 o40 : Option Value} {v : Value} (h : N7 X W its o37 o39 o40 (some v)) : ∃ A c, v = .slice A 1 c := by
 obtain ⟨A, c, e1, e2⟩ := h.r41 v rfl
 exact Kd.aWz e2
theorem N7.reads41 {X W : World} {its : List ThX} {o37 o39 : Option Value} {A40 A41 : Option Addr} {c40 c41 : Nat} (h : N7 X W its o37 o39 (some (.slice A40 301 c40)) (some (.slice A41 1 c41))) : ReadsRow (fun (y : ThX) cs => cs = [slE y]) slK.sz W A41 1 [((0, A40, c40, List.replicate 301 0) : ThX)] := by
 obtain ⟨A, c, e1, e2⟩ := h.r41 _ rfl
 obtain ⟨rfl, rfl⟩ : A40 = A ∧ c40 = c := by
  have := Option.some.inj e1
  injection this with a b c
  exact ⟨a, c⟩
 exact (Kd.aQz e2).2.2
theorem N7.last {X W w1 : World} {its : List ThX} {A40 : Option Addr} {c40 n : Nat} {v37 v39 v41 : Value} {A1 : Option Addr} {c1 : Nat} {l0 : List (List Int)} (h : N7 X W its (some v37) (some v39) (some (.slice A40 301 c40)) (some v41)) (g1 : slK.R 34 w1 X.heap.size (fun _ => True) (.slice A1 n c1) (its ++ [((0, A40, c40, List.replicate 301 0) : ThX)])) (g3 : W.grownBy w1 v39.ownBlock) (g2 : Below X.heap.size X w1) (hx : ∀ x, x ∈ its → ThC X x) (hl : its.map (fun x => x.2.2.2) = l0) :
  n = (l0 ++ [List.replicate 301 0]).length ∧ (l0 ++ [List.replicate 301 0]).length ≤ c1 ∧ Kd.C (Kd.slice 5 (Kd.int .u8)) w1 A1 (l0 ++ [List.replicate 301 0]).length (l0 ++ [List.replicate 301 0]) := by
 obtain ⟨h1, h2, h3⟩ := Kd.aQz g1
 have hlen : (l0 ++ [List.replicate 301 0]).length = (its ++ [((0, A40, c40, List.replicate 301 0) : ThX)]).length := by rw [← hl, List.length_append, List.length_append, List.length_map, List.length_singleton, List.length_singleton]
 refine ⟨by rw [hlen]; exact h1, by rw [hlen, ← h1]; exact h2, ?_⟩
 have h4 := none_rows_back h3 (fun x hx0 => ?_)
 ·rw [hlen]
  rw [List.map_append, hl] at h4
  exact h4
 ·rcases List.mem_append.1 hx0 with hx0 | hx0
  ·exact (hx x hx0).below g2
  ·obtain rfl : x = ((0, A40, c40, List.replicate 301 0) : ThX) := List.mem_singleton.1 hx0
   obtain ⟨k1, k2, k3⟩ := Kd.aQz (Kd.R_over (h.r40 _ rfl) (h.r39 v39 rfl) (by decide) g3)
   exact ⟨by show (List.replicate 301 (0 : Int)).length ≤ c40; rw [List.length_replicate]; exact k2, k3⟩
set_option maxRecDepth 100000 in
set_option maxHeartbeats 4000000 in
theorem aoz.go (k : Nat) (A0 : Option Addr) (c0 n : Nat) (l0 : List (List Int)) (a1 : Int) (few : Bool) (e1 e2 g1 g2 h1 h2 i1 i2 : Int) (w : World) (hn : l0.length = n) (hr0 : Kd.C (Kd.slice 5 (Kd.int .u8)) w A0 l0.length l0) (hc0 : l0.length ≤ c0)
  (hf : afz.f k l0 = some few) (he : few = true → aTz.f k [] a1 = some (e1, e2)) (hg : few = true → aTz.f k l0 (l0.length : Int) = some (g1, g2)) (hh : few = true → aTz.f k l0 0 = some (h1, h2)) (hi : few = true → l0.length ≤ 1000 ∧ aTz.f k (l0 ++ [List.replicate 301 0]) a1 = some (i1, i2)) :
  Calls Tryz.prog 12 #[.slice A0 n c0, .int .i64 a1] w fun e w' => e = .returned (.bool (if few = true then aoz.g true n (e1, e2) (g1, g2) (h1, h2) (i1, i2) else true)) ∧ Below w.heap.size w w' := by
 have HAW := Aside0.mk (fun (W : World) => bgz.calls k true W rfl)
 have HFE := Aside0.mk (fun (W : World) (hB : Below w.heap.size w W) => afz.calls k A0 c0 l0 few W (Kd.arz hr0 hB) hc0 hf)
 have HPE := Aside0.mk (fun (hw : few = true) (W : World) => aTz.calls k none 0 [] a1 e1 e2 W ⟨rfl, by simp, fun h => absurd h (by simp)⟩ (Nat.le_refl _) (he hw))
 have HPG := Aside0.mk (fun (hw : few = true) (W : World) (hB : Below w.heap.size w W) => aTz.calls k A0 c0 l0 (l0.length : Int) g1 g2 W (Kd.arz hr0 hB) hc0 (hg hw))
 have HPH := Aside0.mk (fun (hw : few = true) (W : World) (hB : Below w.heap.size w W) => aTz.calls k A0 c0 l0 0 h1 h2 W (Kd.arz hr0 hB) hc0 (hh hw))
 have HPI := Aside0.mk (fun (hw : few = true) (W : World) (A : Option Addr) (c : Nat) (hC : Kd.C (Kd.slice 5 (Kd.int .u8)) W A (l0 ++ [List.replicate 301 0]).length (l0 ++ [List.replicate 301 0])) (hc : (l0 ++ [List.replicate 301 0]).length ≤ c) => aTz.calls k A c (l0 ++ [List.replicate 301 0]) a1 i1 i2 W hC hc (hi hw).2)
 have HR0 := Aside0.mk hr0
 have HL := Aside0.mk (fun hw : few = true => (hi hw).1)
 rw [hn] at HFE HPG HPH HR0 HL
 have HN := Aside0.mk hn
 have HC := Aside0.mk hc0
 clear hr0 hc0 hf he hg hh hi hn
 go_enter Tryz.func12, Tryz.ntmps12
 go_wp2_with fail
 refine (HAW.out _).mono ?_
 rintro e w1 ⟨rfl, hb1⟩
 have HB1 := Aside0.mk hb1
 clear hb1 HAW
 have HF := Aside0.mk (HFE.out w1 HB1.out)
 clear HFE
 go_wp2_with fail
 refine HF.out.mono ?_
 rintro e w2 ⟨rfl, hb2⟩
 have HB2 := Aside0.mk (HB1.out.trans (hb2.below.mono HB1.out.size))
 clear hb2 HB1 HF
 cases few with
 | false =>
  go_wp2
  go_ret
  exact ⟨rfl, HB2.out⟩
 | true =>
  have HE := Aside0.mk (HPE.out (by trivial))
  clear HPE
  go_wp2_with fail
  refine (HE.out w2).mono ?_
  rintro e w3 ⟨rfl, hb3⟩
  have HB3 := Aside0.mk (HB2.out.trans (hb3.mono HB2.out.size))
  clear hb3 HE HB2
  have HG := Aside0.mk (HPG.out (by trivial) w3 HB3.out)
  clear HPG
  go_wp2_with fail
  refine HG.out.mono ?_
  rintro e w4 ⟨rfl, hb4⟩
  have HB4 := Aside0.mk (HB3.out.trans (hb4.mono HB3.out.size))
  clear hb4 HG HB3
  have HH := Aside0.mk (HPH.out (by trivial) w4 HB4.out)
  clear HPH
  go_wp2_with fail
  refine HH.out.mono ?_
  rintro e w5 ⟨rfl, hb5⟩
  have HB5 := Aside0.mk (HB4.out.trans (hb5.mono HB4.out.size))
  clear hb5 HH HB4
  go_wp2_with fail
  have hr5 := Kd.arz HR0.out HB5.out
  obtain ⟨its, hil, hic, hix⟩ := none_rows_of hr5
  have HIL := Aside0.mk hil
  have HIC := Aside0.mk hic
  have HIX := Aside0.mk hix
  have HNL := Aside0.mk (HL.out (by trivial))
  clear hr5 hil hic hix HL
  have HPI := Aside0.mk (HPI.out (by trivial))
  have hS0 := N7.start w5 its
  refine bdz (n := 7) (S := fun w' => True) (ds := []) (bA 7 0) kr_ rfl rfl trivial (fun hHeld => ?_)
  refine pu_ 1 38 2 ?_
  refine join_ (σ := Value × Value × Value × Value) 2 (bA 7 31) (fun s => [(37, s.1), (39, s.2.1), (40, s.2.2.1), (41, s.2.2.2)]) (fun s w' => ∃ A c, s.2.2.1 = .slice A 301 c ∧ N7 w5 w' its (some s.1) (some s.2.1) (some s.2.2.1) (some s.2.2.2)) ?_ ?_
  rotate_left
  ·intro hCont
   refine two_ (i := 0) (j := 3) (Ni := some 37) (Nj := some 40) (bA 7 3) (bA 7 10) rfl rfl rfl rfl kr_ (by decide) (by decide) (fun K hK => ?_) (fun K hK => ?_)
   ·skip
    refine Kd.boz slK (w0 := w5) w5.heap.size 34 (by rfl) (N := 37) rfl (xs := ([] : List ThX)) (inner := []) (ok := fun _ => True) (okp := fun _ => True) ?hr (Reps.none _ _) (fun _ h => h) trivial (by first | exact hS0.b | exact hS0.drew.b | exact hS0.drew.drew.b) (by first | exact hS0.b.size | exact hS0.drew.b.size | exact hS0.drew.drew.b.size) (by simp) ?_
    case hr => first | (go_simp; done) | (go_simp; rfl)
    intro v37 w37 g1 g2 g3 g4
    have hS1 := N7.lit37 (by first | exact hS0 | exact hS0.drew | exact hS0.drew.drew) g1 g2 g3 g4
    refine hK.out _ _ trivial (fun hHeld => ?_)
    clear hK K
    refine norm_ (a' := ?_) ?_ ?_
    rotate_left
    ·show Act.put _ (some 37) _ = _
     simp only [Act.put, List.setIfInBounds_toArray, List.set_cons_zero, List.set_cons_succ, i64_w, i32_w]
     rfl
    refine two_ (i := 2) (j := 3) (Ni := some 39) (Nj := some 40) (bA 7 7) (bA 7 11) rfl rfl rfl rfl kr_ (by decide) (by decide) (fun K hK => ?_) (fun K hK => ?_)
    ·skip
     refine Kd.a7z slK (Rr := fun (y : ThX) cs => cs = [slE y]) (w0 := w5) w5.heap.size (by rfl) (.tmp 37) (.tmp 38) 24 34 (.slice none 0 0) 24 rfl Tryz.underlying24 kr_ rfl (by decide) (by decide) v37 [] its A0 n c0 (fun _ => True) (fun _ => False) rfl rfl (by first | exact hS1.r37 rfl _ rfl | exact hS1.drew.r37 rfl _ rfl | exact hS1.drew.drew.r37 rfl _ rfl) (by first | exact ReadsRow.imp_ HIC.out hS1.b (fun _ _ h => h) | exact ReadsRow.imp_ HIC.out hS1.drew.b (fun _ _ h => h) | exact ReadsRow.imp_ HIC.out hS1.drew.drew.b (fun _ _ h => h)) (fun _ _ h => h) (fun _ h => h.elim) (fun _ _ => trivial) (by first | exact hS1.b | exact hS1.drew.b | exact hS1.drew.drew.b) (by first | exact hS1.b.size | exact hS1.drew.b.size | exact hS1.drew.drew.b.size) (by have := HNL.out; simp only [List.length_nil]; omega) ?_
     intro v39 w39 g1 g2 g3 g4
     have hS2 := N7.app39 (by first | exact hS1 | exact hS1.drew | exact hS1.drew.drew) g1 g2 g3
     clear g1 g2 g3 g4
     refine hK.out _ _ trivial (fun hHeld => ?_)
     clear hK K
     refine norm_ (a' := ?_) ?_ ?_
     rotate_left
     ·show Act.put _ (some 39) _ = _
      simp only [Act.put, List.setIfInBounds_toArray, List.set_cons_zero, List.set_cons_succ, i64_w, i32_w]
      rfl
     refine one_ (i := 3) (N := some 40) (bA 7 15) rfl rfl kr_ (by decide) (fun K hK => ?_)
     refine Kd.ddz (Kd.int .u8) (w0 := w5) w5.heap.size 5 (by rfl) (N := 40) rfl 34 _ _ rfl 301 rfl rfl Tryz.underlying34 (.int .u8 0) 1 kr_ rfl (by decide) (by omega) 0 (ok := fun _ => True) (okp := fun _ => True) rfl (fun _ hk => hk) trivial (by decide) (by decide) (by first | exact hS2.b | exact hS2.drew.b | exact hS2.drew.drew.b) (by first | exact hS2.b.size | exact hS2.drew.b.size | exact hS2.drew.drew.b.size) ?_
     intro v40 w40 g1 g2 g3 g4
     have hS3 := N7.make40 (by first | exact hS2 | exact hS2.drew | exact hS2.drew.drew) g1 g2 g3
     obtain ⟨A40, c40, rfl⟩ : ∃ A c, v40 = .slice A 301 c := by have h := Kd.aWz g1; rwa [List.length_replicate] at h
     clear g1 g2 g3 g4
     refine hK.out _ _ trivial (fun hHeld => ?_)
     clear hK K
     refine norm_ (a' := ?_) ?_ ?_
     rotate_left
     ·show Act.put _ (some 40) _ = _
      simp only [Act.put, List.setIfInBounds_toArray, List.set_cons_zero, List.set_cons_succ, i64_w, i32_w]
      rfl
     refine one_ (i := 4) (N := some 41) (bA 7 31) rfl rfl kr_ (by decide) (fun K hK => ?_)
     refine Kd.boz slK (w0 := w5) w5.heap.size 34 (by rfl) (N := 41) rfl (xs := [((0, A40, c40, List.replicate 301 0) : ThX)]) (inner := [.slice A40 301 c40]) (ok := fun k => ∀ u, some v37 = some u → some k ≠ u.ownBlock) (okp := fun _ => False) ?hr (N7.rep41 A40 c40 _ _ _) (fun _ h => h.elim) (by first | exact hS3.fresh | exact hS3.drew.fresh | exact hS3.drew.drew.fresh) (by first | exact hS3.b | exact hS3.drew.b | exact hS3.drew.drew.b) (by first | exact hS3.b.size | exact hS3.drew.b.size | exact hS3.drew.drew.b.size) (by simp) ?_
     case hr => first | (go_simp; done) | (go_simp; rfl)
     intro v41 w41 g1 g2 g3 g4
     have hS4 := N7.lit41 (by first | exact hS3 | exact hS3.drew | exact hS3.drew.drew) g1 g2 g3
     clear g1 g2 g3 g4
     refine hK.out _ _ trivial (fun hHeld => ?_)
     clear hK K
     refine norm_ (a' := ?_) ?_ ?_
     rotate_left
     ·show Act.put _ (some 41) _ = _
      simp only [Act.put, List.setIfInBounds_toArray, List.set_cons_zero, List.set_cons_succ, i64_w, i32_w]
      rfl
     exact norm_ (by simp only [putAll, Act.put, List.setIfInBounds_toArray, List.set_cons_zero, List.set_cons_succ]) (hCont (v37, v39, .slice A40 301 c40, v41) _ ⟨_, _, rfl, (by first | exact hS4 | exact hS4.drew | exact hS4.drew.drew)⟩)
    ·skip
     refine Kd.ddz (Kd.int .u8) (w0 := w5) w5.heap.size 5 (by rfl) (N := 40) rfl 34 _ _ rfl 301 rfl rfl Tryz.underlying34 (.int .u8 0) 1 kr_ rfl (by decide) (by omega) 0 (ok := fun _ => True) (okp := fun _ => True) rfl (fun _ hk => hk) trivial (by decide) (by decide) (by first | exact hS1.b | exact hS1.drew.b | exact hS1.drew.drew.b) (by first | exact hS1.b.size | exact hS1.drew.b.size | exact hS1.drew.drew.b.size) ?_
     intro v40 w40 g1 g2 g3 g4
     have hS2 := N7.make40 (by first | exact hS1 | exact hS1.drew | exact hS1.drew.drew) g1 g2 g3
     obtain ⟨A40, c40, rfl⟩ : ∃ A c, v40 = .slice A 301 c := by have h := Kd.aWz g1; rwa [List.length_replicate] at h
     clear g1 g2 g3 g4
     refine hK.out _ _ trivial (fun hHeld => ?_)
     clear hK K
     refine norm_ (a' := ?_) ?_ ?_
     rotate_left
     ·show Act.put _ (some 40) _ = _
      simp only [Act.put, List.setIfInBounds_toArray, List.set_cons_zero, List.set_cons_succ, i64_w, i32_w]
      rfl
     refine two_ (i := 2) (j := 4) (Ni := some 39) (Nj := some 41) (bA 7 15) (bA 7 27) rfl rfl rfl rfl kr_ (by decide) (by decide) (fun K hK => ?_) (fun K hK => ?_)
     ·skip
      refine Kd.a7z slK (Rr := fun (y : ThX) cs => cs = [slE y]) (w0 := w5) w5.heap.size (by rfl) (.tmp 37) (.tmp 38) 24 34 (.slice none 0 0) 24 rfl Tryz.underlying24 kr_ rfl (by decide) (by decide) v37 [] its A0 n c0 (fun _ => True) (fun _ => False) rfl rfl (by first | exact hS2.r37 rfl _ rfl | exact hS2.drew.r37 rfl _ rfl | exact hS2.drew.drew.r37 rfl _ rfl) (by first | exact ReadsRow.imp_ HIC.out hS2.b (fun _ _ h => h) | exact ReadsRow.imp_ HIC.out hS2.drew.b (fun _ _ h => h) | exact ReadsRow.imp_ HIC.out hS2.drew.drew.b (fun _ _ h => h)) (fun _ _ h => h) (fun _ h => h.elim) (fun _ _ => trivial) (by first | exact hS2.b | exact hS2.drew.b | exact hS2.drew.drew.b) (by first | exact hS2.b.size | exact hS2.drew.b.size | exact hS2.drew.drew.b.size) (by have := HNL.out; simp only [List.length_nil]; omega) ?_
      intro v39 w39 g1 g2 g3 g4
      have hS3 := N7.app39 (by first | exact hS2 | exact hS2.drew | exact hS2.drew.drew) g1 g2 g3
      clear g1 g2 g3 g4
      refine hK.out _ _ trivial (fun hHeld => ?_)
      clear hK K
      refine norm_ (a' := ?_) ?_ ?_
      rotate_left
      ·show Act.put _ (some 39) _ = _
       simp only [Act.put, List.setIfInBounds_toArray, List.set_cons_zero, List.set_cons_succ, i64_w, i32_w]
       rfl
      refine one_ (i := 4) (N := some 41) (bA 7 31) rfl rfl kr_ (by decide) (fun K hK => ?_)
      refine Kd.boz slK (w0 := w5) w5.heap.size 34 (by rfl) (N := 41) rfl (xs := [((0, A40, c40, List.replicate 301 0) : ThX)]) (inner := [.slice A40 301 c40]) (ok := fun k => ∀ u, some v37 = some u → some k ≠ u.ownBlock) (okp := fun _ => False) ?hr (N7.rep41 A40 c40 _ _ _) (fun _ h => h.elim) (by first | exact hS3.fresh | exact hS3.drew.fresh | exact hS3.drew.drew.fresh) (by first | exact hS3.b | exact hS3.drew.b | exact hS3.drew.drew.b) (by first | exact hS3.b.size | exact hS3.drew.b.size | exact hS3.drew.drew.b.size) (by simp) ?_
      case hr => first | (go_simp; done) | (go_simp; rfl)
      intro v41 w41 g1 g2 g3 g4
      have hS4 := N7.lit41 (by first | exact hS3 | exact hS3.drew | exact hS3.drew.drew) g1 g2 g3
      clear g1 g2 g3 g4
      refine hK.out _ _ trivial (fun hHeld => ?_)
      clear hK K
      refine norm_ (a' := ?_) ?_ ?_
      rotate_left
      ·show Act.put _ (some 41) _ = _
       simp only [Act.put, List.setIfInBounds_toArray, List.set_cons_zero, List.set_cons_succ, i64_w, i32_w]
       rfl
      exact norm_ (by simp only [putAll, Act.put, List.setIfInBounds_toArray, List.set_cons_zero, List.set_cons_succ]) (hCont (v37, v39, .slice A40 301 c40, v41) _ ⟨_, _, rfl, (by first | exact hS4 | exact hS4.drew | exact hS4.drew.drew)⟩)
     ·skip
      refine Kd.boz slK (w0 := w5) w5.heap.size 34 (by rfl) (N := 41) rfl (xs := [((0, A40, c40, List.replicate 301 0) : ThX)]) (inner := [.slice A40 301 c40]) (ok := fun k => ∀ u, some v37 = some u → some k ≠ u.ownBlock) (okp := fun _ => False) ?hr (N7.rep41 A40 c40 _ _ _) (fun _ h => h.elim) (by first | exact hS2.fresh | exact hS2.drew.fresh | exact hS2.drew.drew.fresh) (by first | exact hS2.b | exact hS2.drew.b | exact hS2.drew.drew.b) (by first | exact hS2.b.size | exact hS2.drew.b.size | exact hS2.drew.drew.b.size) (by simp) ?_
      case hr => first | (go_simp; done) | (go_simp; rfl)
      intro v41 w41 g1 g2 g3 g4
      have hS3 := N7.lit41 (by first | exact hS2 | exact hS2.drew | exact hS2.drew.drew) g1 g2 g3
      clear g1 g2 g3 g4
      refine hK.out _ _ trivial (fun hHeld => ?_)
      clear hK K
      refine norm_ (a' := ?_) ?_ ?_
      rotate_left
      ·show Act.put _ (some 41) _ = _
       simp only [Act.put, List.setIfInBounds_toArray, List.set_cons_zero, List.set_cons_succ, i64_w, i32_w]
       rfl
      refine one_ (i := 2) (N := some 39) (bA 7 31) rfl rfl kr_ (by decide) (fun K hK => ?_)
      refine Kd.a7z slK (Rr := fun (y : ThX) cs => cs = [slE y]) (w0 := w5) w5.heap.size (by rfl) (.tmp 37) (.tmp 38) 24 34 (.slice none 0 0) 24 rfl Tryz.underlying24 kr_ rfl (by decide) (by decide) v37 [] its A0 n c0 (fun _ => True) (fun _ => False) rfl rfl (by first | exact hS3.r37 rfl _ rfl | exact hS3.drew.r37 rfl _ rfl | exact hS3.drew.drew.r37 rfl _ rfl) (by first | exact ReadsRow.imp_ HIC.out hS3.b (fun _ _ h => h) | exact ReadsRow.imp_ HIC.out hS3.drew.b (fun _ _ h => h) | exact ReadsRow.imp_ HIC.out hS3.drew.drew.b (fun _ _ h => h)) (fun _ _ h => h) (fun _ h => h.elim) (fun _ _ => trivial) (by first | exact hS3.b | exact hS3.drew.b | exact hS3.drew.drew.b) (by first | exact hS3.b.size | exact hS3.drew.b.size | exact hS3.drew.drew.b.size) (by have := HNL.out; simp only [List.length_nil]; omega) ?_
      intro v39 w39 g1 g2 g3 g4
      have hS4 := N7.app39 (by first | exact hS3 | exact hS3.drew | exact hS3.drew.drew) g1 g2 g3
      clear g1 g2 g3 g4
      refine hK.out _ _ trivial (fun hHeld => ?_)
      clear hK K
      refine norm_ (a' := ?_) ?_ ?_
      rotate_left
      ·show Act.put _ (some 39) _ = _
       simp only [Act.put, List.setIfInBounds_toArray, List.set_cons_zero, List.set_cons_succ, i64_w, i32_w]
       rfl
      exact norm_ (by simp only [putAll, Act.put, List.setIfInBounds_toArray, List.set_cons_zero, List.set_cons_succ]) (hCont (v37, v39, .slice A40 301 c40, v41) _ ⟨_, _, rfl, (by first | exact hS4 | exact hS4.drew | exact hS4.drew.drew)⟩)
   ·skip
    refine Kd.ddz (Kd.int .u8) (w0 := w5) w5.heap.size 5 (by rfl) (N := 40) rfl 34 _ _ rfl 301 rfl rfl Tryz.underlying34 (.int .u8 0) 1 kr_ rfl (by decide) (by omega) 0 (ok := fun _ => True) (okp := fun _ => True) rfl (fun _ hk => hk) trivial (by decide) (by decide) (by first | exact hS0.b | exact hS0.drew.b | exact hS0.drew.drew.b) (by first | exact hS0.b.size | exact hS0.drew.b.size | exact hS0.drew.drew.b.size) ?_
    intro v40 w40 g1 g2 g3 g4
    have hS1 := N7.make40 (by first | exact hS0 | exact hS0.drew | exact hS0.drew.drew) g1 g2 g3
    obtain ⟨A40, c40, rfl⟩ : ∃ A c, v40 = .slice A 301 c := by have h := Kd.aWz g1; rwa [List.length_replicate] at h
    clear g1 g2 g3 g4
    refine hK.out _ _ trivial (fun hHeld => ?_)
    clear hK K
    refine norm_ (a' := ?_) ?_ ?_
    rotate_left
    ·show Act.put _ (some 40) _ = _
     simp only [Act.put, List.setIfInBounds_toArray, List.set_cons_zero, List.set_cons_succ, i64_w, i32_w]
     rfl
    refine two_ (i := 0) (j := 4) (Ni := some 37) (Nj := some 41) (bA 7 11) (bA 7 26) rfl rfl rfl rfl kr_ (by decide) (by decide) (fun K hK => ?_) (fun K hK => ?_)
    ·skip
     refine Kd.boz slK (w0 := w5) w5.heap.size 34 (by rfl) (N := 37) rfl (xs := ([] : List ThX)) (inner := []) (ok := fun _ => True) (okp := fun _ => True) ?hr (Reps.none _ _) (fun _ h => h) trivial (by first | exact hS1.b | exact hS1.drew.b | exact hS1.drew.drew.b) (by first | exact hS1.b.size | exact hS1.drew.b.size | exact hS1.drew.drew.b.size) (by simp) ?_
     case hr => first | (go_simp; done) | (go_simp; rfl)
     intro v37 w37 g1 g2 g3 g4
     have hS2 := N7.lit37 (by first | exact hS1 | exact hS1.drew | exact hS1.drew.drew) g1 g2 g3 g4
     refine hK.out _ _ trivial (fun hHeld => ?_)
     clear hK K
     refine norm_ (a' := ?_) ?_ ?_
     rotate_left
     ·show Act.put _ (some 37) _ = _
      simp only [Act.put, List.setIfInBounds_toArray, List.set_cons_zero, List.set_cons_succ, i64_w, i32_w]
      rfl
     refine two_ (i := 2) (j := 4) (Ni := some 39) (Nj := some 41) (bA 7 15) (bA 7 27) rfl rfl rfl rfl kr_ (by decide) (by decide) (fun K hK => ?_) (fun K hK => ?_)
     ·skip
      refine Kd.a7z slK (Rr := fun (y : ThX) cs => cs = [slE y]) (w0 := w5) w5.heap.size (by rfl) (.tmp 37) (.tmp 38) 24 34 (.slice none 0 0) 24 rfl Tryz.underlying24 kr_ rfl (by decide) (by decide) v37 [] its A0 n c0 (fun _ => True) (fun _ => False) rfl rfl (by first | exact hS2.r37 rfl _ rfl | exact hS2.drew.r37 rfl _ rfl | exact hS2.drew.drew.r37 rfl _ rfl) (by first | exact ReadsRow.imp_ HIC.out hS2.b (fun _ _ h => h) | exact ReadsRow.imp_ HIC.out hS2.drew.b (fun _ _ h => h) | exact ReadsRow.imp_ HIC.out hS2.drew.drew.b (fun _ _ h => h)) (fun _ _ h => h) (fun _ h => h.elim) (fun _ _ => trivial) (by first | exact hS2.b | exact hS2.drew.b | exact hS2.drew.drew.b) (by first | exact hS2.b.size | exact hS2.drew.b.size | exact hS2.drew.drew.b.size) (by have := HNL.out; simp only [List.length_nil]; omega) ?_
      intro v39 w39 g1 g2 g3 g4
      have hS3 := N7.app39 (by first | exact hS2 | exact hS2.drew | exact hS2.drew.drew) g1 g2 g3
      clear g1 g2 g3 g4
      refine hK.out _ _ trivial (fun hHeld => ?_)
      clear hK K
      refine norm_ (a' := ?_) ?_ ?_
      rotate_left
      ·show Act.put _ (some 39) _ = _
       simp only [Act.put, List.setIfInBounds_toArray, List.set_cons_zero, List.set_cons_succ, i64_w, i32_w]
       rfl
      refine one_ (i := 4) (N := some 41) (bA 7 31) rfl rfl kr_ (by decide) (fun K hK => ?_)
      refine Kd.boz slK (w0 := w5) w5.heap.size 34 (by rfl) (N := 41) rfl (xs := [((0, A40, c40, List.replicate 301 0) : ThX)]) (inner := [.slice A40 301 c40]) (ok := fun k => ∀ u, some v37 = some u → some k ≠ u.ownBlock) (okp := fun _ => False) ?hr (N7.rep41 A40 c40 _ _ _) (fun _ h => h.elim) (by first | exact hS3.fresh | exact hS3.drew.fresh | exact hS3.drew.drew.fresh) (by first | exact hS3.b | exact hS3.drew.b | exact hS3.drew.drew.b) (by first | exact hS3.b.size | exact hS3.drew.b.size | exact hS3.drew.drew.b.size) (by simp) ?_
      case hr => first | (go_simp; done) | (go_simp; rfl)
      intro v41 w41 g1 g2 g3 g4
      have hS4 := N7.lit41 (by first | exact hS3 | exact hS3.drew | exact hS3.drew.drew) g1 g2 g3
      clear g1 g2 g3 g4
      refine hK.out _ _ trivial (fun hHeld => ?_)
      clear hK K
      refine norm_ (a' := ?_) ?_ ?_
      rotate_left
      ·show Act.put _ (some 41) _ = _
       simp only [Act.put, List.setIfInBounds_toArray, List.set_cons_zero, List.set_cons_succ, i64_w, i32_w]
       rfl
      exact norm_ (by simp only [putAll, Act.put, List.setIfInBounds_toArray, List.set_cons_zero, List.set_cons_succ]) (hCont (v37, v39, .slice A40 301 c40, v41) _ ⟨_, _, rfl, (by first | exact hS4 | exact hS4.drew | exact hS4.drew.drew)⟩)
     ·skip
      refine Kd.boz slK (w0 := w5) w5.heap.size 34 (by rfl) (N := 41) rfl (xs := [((0, A40, c40, List.replicate 301 0) : ThX)]) (inner := [.slice A40 301 c40]) (ok := fun k => ∀ u, some v37 = some u → some k ≠ u.ownBlock) (okp := fun _ => False) ?hr (N7.rep41 A40 c40 _ _ _) (fun _ h => h.elim) (by first | exact hS2.fresh | exact hS2.drew.fresh | exact hS2.drew.drew.fresh) (by first | exact hS2.b | exact hS2.drew.b | exact hS2.drew.drew.b) (by first | exact hS2.b.size | exact hS2.drew.b.size | exact hS2.drew.drew.b.size) (by simp) ?_
      case hr => first | (go_simp; done) | (go_simp; rfl)
      intro v41 w41 g1 g2 g3 g4
      have hS3 := N7.lit41 (by first | exact hS2 | exact hS2.drew | exact hS2.drew.drew) g1 g2 g3
      clear g1 g2 g3 g4
      refine hK.out _ _ trivial (fun hHeld => ?_)
      clear hK K
      refine norm_ (a' := ?_) ?_ ?_
      rotate_left
      ·show Act.put _ (some 41) _ = _
       simp only [Act.put, List.setIfInBounds_toArray, List.set_cons_zero, List.set_cons_succ, i64_w, i32_w]
       rfl
      refine one_ (i := 2) (N := some 39) (bA 7 31) rfl rfl kr_ (by decide) (fun K hK => ?_)
      refine Kd.a7z slK (Rr := fun (y : ThX) cs => cs = [slE y]) (w0 := w5) w5.heap.size (by rfl) (.tmp 37) (.tmp 38) 24 34 (.slice none 0 0) 24 rfl Tryz.underlying24 kr_ rfl (by decide) (by decide) v37 [] its A0 n c0 (fun _ => True) (fun _ => False) rfl rfl (by first | exact hS3.r37 rfl _ rfl | exact hS3.drew.r37 rfl _ rfl | exact hS3.drew.drew.r37 rfl _ rfl) (by first | exact ReadsRow.imp_ HIC.out hS3.b (fun _ _ h => h) | exact ReadsRow.imp_ HIC.out hS3.drew.b (fun _ _ h => h) | exact ReadsRow.imp_ HIC.out hS3.drew.drew.b (fun _ _ h => h)) (fun _ _ h => h) (fun _ h => h.elim) (fun _ _ => trivial) (by first | exact hS3.b | exact hS3.drew.b | exact hS3.drew.drew.b) (by first | exact hS3.b.size | exact hS3.drew.b.size | exact hS3.drew.drew.b.size) (by have := HNL.out; simp only [List.length_nil]; omega) ?_
      intro v39 w39 g1 g2 g3 g4
      have hS4 := N7.app39 (by first | exact hS3 | exact hS3.drew | exact hS3.drew.drew) g1 g2 g3
      clear g1 g2 g3 g4
      refine hK.out _ _ trivial (fun hHeld => ?_)
      clear hK K
      refine norm_ (a' := ?_) ?_ ?_
      rotate_left
      ·show Act.put _ (some 39) _ = _
       simp only [Act.put, List.setIfInBounds_toArray, List.set_cons_zero, List.set_cons_succ, i64_w, i32_w]
       rfl
      exact norm_ (by simp only [putAll, Act.put, List.setIfInBounds_toArray, List.set_cons_zero, List.set_cons_succ]) (hCont (v37, v39, .slice A40 301 c40, v41) _ ⟨_, _, rfl, (by first | exact hS4 | exact hS4.drew | exact hS4.drew.drew)⟩)
    ·skip
     refine Kd.boz slK (w0 := w5) w5.heap.size 34 (by rfl) (N := 41) rfl (xs := [((0, A40, c40, List.replicate 301 0) : ThX)]) (inner := [.slice A40 301 c40]) (ok := fun k => ∀ u, (none : Option Value) = some u → some k ≠ u.ownBlock) (okp := fun _ => False) ?hr (N7.rep41 A40 c40 _ _ _) (fun _ h => h.elim) (by first | exact hS1.fresh | exact hS1.drew.fresh | exact hS1.drew.drew.fresh) (by first | exact hS1.b | exact hS1.drew.b | exact hS1.drew.drew.b) (by first | exact hS1.b.size | exact hS1.drew.b.size | exact hS1.drew.drew.b.size) (by simp) ?_
     case hr => first | (go_simp; done) | (go_simp; rfl)
     intro v41 w41 g1 g2 g3 g4
     have hS2 := N7.lit41 (by first | exact hS1 | exact hS1.drew | exact hS1.drew.drew) g1 g2 g3
     clear g1 g2 g3 g4
     refine hK.out _ _ trivial (fun hHeld => ?_)
     clear hK K
     refine norm_ (a' := ?_) ?_ ?_
     rotate_left
     ·show Act.put _ (some 41) _ = _
      simp only [Act.put, List.setIfInBounds_toArray, List.set_cons_zero, List.set_cons_succ, i64_w, i32_w]
      rfl
     refine one_ (i := 0) (N := some 37) (bA 7 27) rfl rfl kr_ (by decide) (fun K hK => ?_)
     refine Kd.boz slK (w0 := w5) w5.heap.size 34 (by rfl) (N := 37) rfl (xs := ([] : List ThX)) (inner := []) (ok := fun _ => True) (okp := fun _ => True) ?hr (Reps.none _ _) (fun _ h => h) trivial (by first | exact hS2.b | exact hS2.drew.b | exact hS2.drew.drew.b) (by first | exact hS2.b.size | exact hS2.drew.b.size | exact hS2.drew.drew.b.size) (by simp) ?_
     case hr => first | (go_simp; done) | (go_simp; rfl)
     intro v37 w37 g1 g2 g3 g4
     have hS3 := N7.lit37 (by first | exact hS2 | exact hS2.drew | exact hS2.drew.drew) g1 g2 g3 g4
     refine hK.out _ _ trivial (fun hHeld => ?_)
     clear hK K
     refine norm_ (a' := ?_) ?_ ?_
     rotate_left
     ·show Act.put _ (some 37) _ = _
      simp only [Act.put, List.setIfInBounds_toArray, List.set_cons_zero, List.set_cons_succ, i64_w, i32_w]
      rfl
     refine one_ (i := 2) (N := some 39) (bA 7 31) rfl rfl kr_ (by decide) (fun K hK => ?_)
     refine Kd.a7z slK (Rr := fun (y : ThX) cs => cs = [slE y]) (w0 := w5) w5.heap.size (by rfl) (.tmp 37) (.tmp 38) 24 34 (.slice none 0 0) 24 rfl Tryz.underlying24 kr_ rfl (by decide) (by decide) v37 [] its A0 n c0 (fun _ => True) (fun _ => False) rfl rfl (by first | exact hS3.r37 rfl _ rfl | exact hS3.drew.r37 rfl _ rfl | exact hS3.drew.drew.r37 rfl _ rfl) (by first | exact ReadsRow.imp_ HIC.out hS3.b (fun _ _ h => h) | exact ReadsRow.imp_ HIC.out hS3.drew.b (fun _ _ h => h) | exact ReadsRow.imp_ HIC.out hS3.drew.drew.b (fun _ _ h => h)) (fun _ _ h => h) (fun _ h => h.elim) (fun _ _ => trivial) (by first | exact hS3.b | exact hS3.drew.b | exact hS3.drew.drew.b) (by first | exact hS3.b.size | exact hS3.drew.b.size | exact hS3.drew.drew.b.size) (by have := HNL.out; simp only [List.length_nil]; omega) ?_
     intro v39 w39 g1 g2 g3 g4
     have hS4 := N7.app39 (by first | exact hS3 | exact hS3.drew | exact hS3.drew.drew) g1 g2 g3
     clear g1 g2 g3 g4
     refine hK.out _ _ trivial (fun hHeld => ?_)
     clear hK K
     refine norm_ (a' := ?_) ?_ ?_
     rotate_left
     ·show Act.put _ (some 39) _ = _
      simp only [Act.put, List.setIfInBounds_toArray, List.set_cons_zero, List.set_cons_succ, i64_w, i32_w]
      rfl
     exact norm_ (by simp only [putAll, Act.put, List.setIfInBounds_toArray, List.set_cons_zero, List.set_cons_succ]) (hCont (v37, v39, .slice A40 301 c40, v41) _ ⟨_, _, rfl, (by first | exact hS4 | exact hS4.drew | exact hS4.drew.drew)⟩)
  rintro ⟨v37, v39, v40, v41⟩ w10 ⟨A40, c40, f0, f1⟩
  dsimp only at f0 f1 ⊢
  subst f0
  obtain ⟨A41, c41, rfl⟩ := f1.row41
  have hHeld : True := trivial
  refine norm_ (a' := ?_) ?_ ?_
  rotate_left
  ·simp only [putAll, Act.put, List.setIfInBounds_toArray, List.set_cons_zero, List.set_cons_succ]
   rfl
  refine one_ (i := 5) (N := some 42) (bA 7 63) rfl rfl kr_ (by decide) (fun K hK => ?_)
  refine Kd.a7z slK (Rr := fun (y : ThX) cs => cs = [slE y]) (w0 := w5) w5.heap.size (by rfl) (.tmp 39) (.tmp 41) 24 34 (.slice none 0 0) 24 rfl Tryz.underlying24 kr_ rfl (by decide) (by decide) v39 its [((0, A40, c40, List.replicate 301 0) : ThX)] A41 1 c41 (fun _ => True) (fun _ => False) rfl rfl (by first | exact f1.r39 _ rfl | exact f1.drew.r39 _ rfl | exact f1.drew.drew.r39 _ rfl) (by first | exact f1.reads41 | exact f1.drew.reads41 | exact f1.drew.drew.reads41) (fun _ _ h => h) (fun _ h => h.elim) (fun _ _ => trivial) (by first | exact f1.b | exact f1.drew.b | exact f1.drew.drew.b) (by first | exact f1.b.size | exact f1.drew.b.size | exact f1.drew.drew.b.size) (by have := HNL.out; have := HIC.out.1; omega) ?_
  intro v42 w42 k1 k2 k3 k4
  obtain ⟨A42, c42, rfl⟩ := Kd.aWz k1
  generalize (its ++ [((0, A40, c40, List.replicate 301 0) : ThX)]).length = n42 at k1 ⊢
  have HLAST := Aside0.mk (N7.last (by first | exact f1 | exact f1.drew | exact f1.drew.drew) k1 k3 k2 HIX.out HIL.out)
  have HB6 := Aside0.mk (HB5.out.trans (k2.mono HB5.out.size))
  clear k1 k2 k3 k4
  refine hK.out _ _ trivial (fun hHeld => ?_)
  clear hK K
  refine norm_ (a' := ?_) ?_ ?_
  rotate_left
  ·show Act.put _ (some 42) _ = _
   simp only [Act.put, List.setIfInBounds_toArray, List.set_cons_zero, List.set_cons_succ, i64_w, i32_w]
   rfl
  refine pu_ 6 12 127 ?_
  refine done_ kr_ ?_
  obtain ⟨hn42, hc42, hC42⟩ := HLAST.out
  rw [← hn42] at hc42 hC42 HPI
  have HI := Aside0.mk (HPI.out w42 A42 c42 hC42 hc42)
  clear hn42 hc42 hC42 HPI HLAST HIL HIC HIX hS0 f1
  go_wp2_with fail
  refine HI.out.mono ?_
  rintro e w6 ⟨rfl, hb6⟩
  have HB7 := Aside0.mk (HB6.out.trans (hb6.mono HB6.out.size))
  clear hb6 HI HB6
  go_wp2
  all_goals
   go_ret
   exact ⟨by (clear HPI HNL; have e0 : ((n : Int) == 0) = (n == 0) := (by rw [Bool.eq_iff_iff]; simp); unfold aoz.g; simp [*]), HB7.out⟩
theorem aoz.calls (k : Nat) (A0 : Option Addr) (c0 : Nat) (l0 : List (List Int)) (a1 : Int) (r : Bool) (w : World) (hr_ : Aside0 (r = true)) (hr0 : Kd.C (Kd.slice 5 (Kd.int .u8)) w A0 l0.length l0) (hc0 : l0.length ≤ c0) (h : aoz.f k l0 a1 = some r) :
 Calls Tryz.prog 12 #[.slice A0 l0.length c0, .int .i64 a1] w fun e w' => e = .returned (.bool r) ∧ Below w.heap.size w w' := by
 unfold aoz.f at h
 rw [show bgz.f k = some true from rfl, Option.bind_some] at h
 obtain ⟨few, hf, h⟩ := Option.bind_eq_some_iff.1 h
 cases few with
 | false =>
  rw [if_neg (by decide)] at h
  obtain rfl := Option.some.inj h
  exact aoz.go k A0 c0 l0.length l0 a1 false 0 0 0 0 0 0 0 0 w rfl hr0 hc0 hf (fun h => by cases h) (fun h => by cases h) (fun h => by cases h) (fun h => by cases h)
 | true =>
  rw [if_pos rfl] at h
  obtain ⟨⟨e1, e2⟩, he, h⟩ := Option.bind_eq_some_iff.1 h
  obtain ⟨⟨g1, g2⟩, hg, h⟩ := Option.bind_eq_some_iff.1 h
  obtain ⟨⟨h1, h2⟩, hh, h⟩ := Option.bind_eq_some_iff.1 h
  by_cases hl : l0.length ≤ 1000
  ·rw [if_pos hl] at h
   obtain ⟨⟨i1, i2⟩, hi, h⟩ := Option.bind_eq_some_iff.1 h
   obtain rfl := Option.some.inj h
   exact aoz.go k A0 c0 l0.length l0 a1 true e1 e2 g1 g2 h1 h2 i1 i2 w rfl hr0 hc0 hf (fun _ => he) (fun _ => hg) (fun _ => hh) (fun _ => ⟨hl, hi⟩)
  ·rw [if_neg hl] at h
   cases h
theorem sum_bad0 (rows : List (List Int)) (L : Nat) (hL : L ≤ 100000000) (hn : rows.length ≤ 1000) (j : Nat) (b : List Int) (hj : rows[j]? = some b) (hb : b.length ≠ L) :
  ∀ (m i : Nat) (acc : List Int), i + m = rows.length → acc.length = L → i ≤ j → ∃ K, agz.l0 K acc rows (rows.length : Int) (i : Int) = some ([], 1)
 | 0, i, acc, hi, _, hij => by
  have := (List.getElem?_eq_some_iff.1 hj).1
  omega
 | m + 1, i, acc, hi, ha, hij => by
  obtain ⟨row, hrow⟩ : ∃ r, rows[i]? = some r := ⟨_, List.getElem?_eq_getElem (by omega)⟩
  have hrd : rd_L1 rows (i : Int) = row := by unfold rd_L1; rw [Int.toNat_natCast, List.getD_eq_getElem?_getD, hrow]; rfl
  by_cases hrl : row.length = L
  ·have hne : i ≠ j := fun e => by
    subst e
    rw [hrow] at hj
    obtain rfl := Option.some.inj hj
    exact hb hrl
   obtain ⟨K, hK⟩ := sum_bad0 rows L hL hn j b hj hb m (i + 1) (xorB acc row) (by omega) (by rw [bUz _ _ (by omega)]; exact hrl) (by omega)
   have h1 := sum_l1 rows (rows.length : Int) i acc row _ K (by omega) (by omega) (by omega) hK row.length 0 (by omega)
   refine ⟨K + row.length + 1 + 1, ?_⟩
   unfold agz.l0
   rw [if_pos (by omega), if_pos (by omega), if_pos (by omega), hrd, if_pos (by omega)]
   simpa using h1
  ·refine ⟨1, ?_⟩
   unfold agz.l0
   rw [if_pos (by omega), if_pos (by omega), if_pos (by omega), hrd, if_neg (by omega)]
theorem sum_bad (rows : List (List Int)) (L : Nat) (hL : L ≤ 100000000) (hn : rows.length ≤ 1000) (a b : List Int) (h0 : rows[0]? = some a) (ha : a.length = L) (j : Nat) (hj : rows[j]? = some b) (hb : b.length ≠ L) : Ev (fun k => agz.f k rows) ([], 1) := by
 have hl := (List.getElem?_eq_some_iff.1 h0).1
 have hrd : rd_L1 rows 0 = a := by unfold rd_L1; rw [show (0 : Int).toNat = 0 from rfl, List.getD_eq_getElem?_getD, h0]; rfl
 obtain ⟨K, hK⟩ := sum_bad0 rows L hL hn j b hj hb rows.length 0 (List.replicate L 0) (by omega) (by simp) (by omega)
 refine Ev.of (fun k => agz.mono _ k) (k := K) ?_
 unfold agz.f
 rw [if_pos (by omega), hrd, if_pos (by omega), if_pos (by omega), ha, Int.toNat_natCast]
 exact hK
theorem dotB_bad (wb : Int) (c : List Int) (D : List (List Int)) (L : Nat) (hc : c.length = D.length) (hn : D.length ≤ 1000) (hr : ∀ r, r ∈ D → r.length ≤ 1000000) (a b : List Int) (h0 : D[0]? = some a) (ha : a.length = L) (j : Nat) (hj : D[j]? = some b) (hb : b.length ≠ L) : Ev (fun k => dotB k wb c D) ([], 1) := by
 unfold dotB
 by_cases he : D.all (evB wb) = true
 ·refine Ev.congr (fun k => by rw [if_pos he]) ?_
  have hev : ∀ r, r ∈ D → r.length % wN wb = 0 := fun r hm => by
   have := List.all_eq_true.1 he r hm
   unfold evB at this
   exact eq_of_beq this
  have hz : ∀ (i : Nat) (r : List Int), D[i]? = some r → ∃ x, (List.zipWith (mulB wb) c D)[i]? = some x ∧ x.length = r.length := fun i r hi => by
   have := (List.getElem?_eq_some_iff.1 hi).1
   refine ⟨mulB wb (c[i]'(by omega)) r, ?_, mulB_len wb _ r (hev r (List.mem_of_getElem? hi))⟩
   rw [List.getElem?_zipWith, List.getElem?_eq_getElem (l := c) (by omega), hi]
  obtain ⟨x, hx, hxl⟩ := hz 0 a h0
  obtain ⟨y, hy, hyl⟩ := hz j b hj
  have := hr a (List.mem_of_getElem? h0)
  exact sum_bad _ L (by omega) (by rw [List.length_zipWith]; omega) x y hx (by omega) j hy (by omega)
 ·exact Ev.congr (fun k => by rw [if_neg he]) (Ev.now _)
theorem ver_bad (q : Int) (K M L : Nat) (l : List (List Int)) (hmay : adz.f q (K : Int) (M : Int) = some true) (hl : l.length = K + M) (hr : ∀ r, r ∈ l → r.length ≤ 1000000) (a b : List Int) (h0 : (l.take K)[0]? = some a) (ha : a.length = L) (j : Nat) (hj : (l.take K)[j]? = some b) (hb : b.length ≠ L) : Ev (fun k => aNz.f k q (K : Int) (M : Int) l) false := by
 obtain ⟨p1, p2, k1, k2, m1, m2⟩ := bjz hmay
 have hg := daz q K M (by omega) (by omega) (by omega) (by omega)
 have hK : (l.take K).length = K := by rw [List.length_take]; omega
 obtain ⟨c, rest, hc⟩ : ∃ c rest, parM q K M = c :: rest := by
  cases e : parM q K M with
  | nil => rw [e] at hg; simp at hg; omega
  | cons c rest => exact ⟨c, rest, rfl⟩
 have hcl : c.length = K := (hg.1 c (by rw [hc]; exact List.mem_cons_self ..)).1
 have hsm : ahz.small (l.take K) = true := by
  simp only [ahz.small, Bool.and_eq_true, decide_eq_true_eq, List.all_eq_true]
  exact ⟨by omega, fun r hm => hr r (List.mem_of_mem_take hm)⟩
 have hd := dotB_bad (pbits q) c (l.take K) L (by omega) (by omega) (fun r hm => hr r (List.mem_of_mem_take hm)) a b h0 ha j hj hb
 have hp : Ev (fun k => ahz.f k q (K : Int) (M : Int) (l.take K)) ([], 1) := by
  refine Ev.congr (f := fun k => (dotB k (pbits q) c (l.take K)).bind fun t => if t.2 = 0 then ahz.l k (pbits q) (l.take K) rest ([] ++ [t.1]) else some ([], 1)) (fun k => ?_) (Ev.bind hd ?_)
  ·unfold ahz.f
   rw [hmay, Option.bind_some, if_pos rfl, if_pos (by omega), if_pos hsm, Int.toNat_natCast, Int.toNat_natCast, hc]
   rfl
  ·exact Ev.congr (fun k => by rw [if_neg (by decide)]) (Ev.now _)
 refine Ev.congr (f := fun k => (ahz.f k q (K : Int) (M : Int) (l.take K)).bind fun t => if t.2 = 0 then eqFunc k t.1 (l.drop K) else some false) (fun k => ?_) (Ev.bind hp ?_)
 ·unfold aNz.f
  rw [hmay, Option.bind_some, if_pos rfl, if_pos (by omega), Int.toNat_natCast]
 ·exact Ev.congr (fun k => by rw [if_neg (by decide)]) (Ev.now _)
theorem ver_long (q : Int) (K M S : Nat) (l : List (List Int)) (z : List Int) (hmay : adz.f q (K : Int) (M : Int) = some true) (hl : l.length + 1 = K + M) (hr : ∀ r, r ∈ l → r.length ≤ 300) (hz : z.length = 301) (a : List Int) (h0 : l[0]? = some a) (ha : a.length = S) (hS : S % wN (pbits q) = 0) : Ev (fun k => aNz.f k q (K : Int) (M : Int) (l ++ [z])) false := by
 obtain ⟨p1, p2, k1, k2, m1, m2⟩ := bjz hmay
 have hlen : (l ++ [z]).length = K + M := by simp; omega
 have hS3 : S ≤ 300 := by rw [← ha]; exact hr a (List.mem_of_getElem? h0)
 have ht : (l ++ [z]).take K = l.take K := by rw [List.take_append_of_le_length (by omega)]
 have hall : ∀ r, r ∈ l ++ [z] → r.length ≤ 1000000 := fun r hm => by
  rcases List.mem_append.1 hm with hm | hm
  ·have := hr r hm; omega
  ·obtain rfl := List.mem_singleton.1 hm; omega
 by_cases hd : ∀ r, r ∈ l.take K → r.length = S
 ·have hv := ver_dec q K M S ((l ++ [z]).take K) ((l ++ [z]).drop K) hmay (by rw [List.length_take]; omega) (by omega) hS (fun r hm => hd r (by rw [← ht]; exact hm)) (by rw [List.length_drop]; omega)
  rw [List.take_append_drop] at hv
  have hne : parV S q K M ((l ++ [z]).take K) ≠ (l ++ [z]).drop K := fun e => by
   have hm : z ∈ (l ++ [z]).drop K := by
    rw [List.drop_append_of_le_length (by omega)]
    exact List.mem_append_right _ (List.mem_singleton.2 rfl)
   rw [← e] at hm
   unfold parV at hm
   obtain ⟨c, -, hc⟩ := List.mem_map.1 hm
   have := dotV_len (wb := pbits q) (L := S) hS (c := c) (rows := (l ++ [z]).take K) (fun r hm => hd r (by rw [← ht]; exact hm))
   rw [hc] at this
   omega
  rw [decide_eq_false hne] at hv
  exact hv
 ·have hex : ∃ r, r ∈ l.take K ∧ r.length ≠ S := Classical.byContradiction fun hn => hd fun r hm => Classical.byContradiction fun hne => hn ⟨r, hm, hne⟩
  obtain ⟨b, hbm, hbl⟩ := hex
  obtain ⟨j, hj⟩ := List.getElem?_of_mem hbm
  exact ver_bad q K M S (l ++ [z]) hmay hlen hall a b (by rw [ht, List.getElem?_take, if_pos (by omega)]; exact h0) ha j (by rw [ht]; exact hj) hbl
theorem c0z (q k : Int) (L : List (List Int)) (h : ¬ adz.f q k (wrap64 ((L.length : Int) - k)) = some true) : Ev (fun n => asz.f n L k q) false := by
 obtain ⟨b, hb⟩ := drz q k (wrap64 ((L.length : Int) - k))
 have hbf : b = false := by
  cases b with
  | false => rfl
  | true => exact absurd hb h
 subst hbf
 refine Ev.congr (fun n => ?_) (Ev.now false)
 unfold asz.f aPz.f
 rw [Option.bind_some, hb, Option.bind_some, if_neg (by decide)]
theorem cAz (L : List (List Int)) (k : Int) (h : ∀ q, 1 ≤ q → q ≤ 6 → Ev (fun n => asz.f n L k q) false) : Ev (fun n => aTz.f n L k) (0, 4) := by
 have ht := trial_ev L k (fun _ => false) h
 have e : (all6.filter fun _ => false) = [] := by simp
 rw [e] at ht
 refine Ev.bind ht (Ev.congr (fun n => ?_) (Ev.now _))
 rw [if_pos (by simp)]
theorem pass_long (q k : Int) (h1 : 1 ≤ q) (h2 : q ≤ 6) (l : List (List Int)) (z : List Int) (hn : l.length ≤ 100) (h0 : 0 < l.length) (hr : ∀ r, r ∈ l → r.length ≤ 300) (hz : z.length = 301) : Ev (fun n => asz.f n (l ++ [z]) k q) false := by
 by_cases hmay : adz.f q k (wrap64 (((l ++ [z]).length : Int) - k)) = some true
 ·obtain ⟨p1, p2, k1, k2, m1, m2⟩ := bjz hmay
  have hlen : (l ++ [z]).length = l.length + 1 := by simp
  have hw : wrap64 (((l ++ [z]).length : Int) - k) = ((l ++ [z]).length : Int) - k := by unfold wrap64; omega
  obtain ⟨K, rfl⟩ : ∃ K : Nat, k = (K : Int) := ⟨k.toNat, by omega⟩
  obtain ⟨M, hM⟩ : ∃ M : Nat, ((l ++ [z]).length : Int) - (K : Int) = (M : Int) := ⟨(((l ++ [z]).length : Int) - (K : Int)).toNat, by omega⟩
  rw [hw, hM] at hmay m1 m2
  obtain ⟨a, ha⟩ : ∃ a, l[0]? = some a := ⟨_, List.getElem?_eq_getElem h0⟩
  have hrd : rd_L1 (l ++ [z]) 0 = a := by unfold rd_L1; rw [show (0 : Int).toNat = 0 from rfl, List.getD_eq_getElem?_getD, List.getElem?_append_left h0, ha]; rfl
  have hlo := long_ev a.length q (K : Int) h1 h2 (l ++ [z]) (by omega) (by rw [hrd])
  refine Ev.congr (f := fun n => (aRz.f n (l ++ [z]) (K : Int) q).bind fun t => (if t = true then ((aNz.f n q (K : Int) (M : Int) (l ++ [z])).bind fun t => (some t)) else (some false))) (fun n => ?_) (Ev.bind hlo ?_)
  ·unfold asz.f aPz.f
   rw [Option.bind_some, hw, hM, hmay, Option.bind_some, if_pos rfl]
  ·cases hlb : longB a.length q with
   | false => exact Ev.congr (fun n => by rw [if_neg (by decide)]) (Ev.now _)
   | true =>
    unfold longB at hlb
    simp only [Bool.and_eq_true, decide_eq_true_eq] at hlb
    have hv := ver_long q K M a.length l z hmay (by omega) hr hz a ha rfl (unit_even h1 h2 hlb.2)
    exact Ev.congr (fun n => by rw [if_pos rfl]) (Ev.bind hv (Ev.now _))
 ·exact c0z q k _ hmay
end Go.Proofs.YtpdakdcmahlghaaGreat.XCo
end
section
namespace Go.Proofs.YtpdakdcmahlghaaGreat.RowKit
open Go Go.ChangeShapes Go.Proofs.YtpdakdcmahlghaaGreatW.PrintWords
theorem nil_reads {α : Type} (d : Kd α) (w : World) : d.C w none 0 [] := ⟨rfl, by simp, fun h => absurd h (by simp)⟩
theorem open_rows {H : Type} {enc : TypeId × Value → H} {P : Program} {w : World} {t e eb : TypeId} {k : IntKind} {fuel : Nat} {cs : List Value} {x : DataW H × List MemPlace} (ht : P.underlying t = some (.slice e)) (he : P.underlying e = some (.slice eb)) (hb : P.underlying eb = some (.int k)) (hce : P.cellsOf e = 1) (hcb : P.cellsOf eb = 1)
  (h : DataW.trod enc P w 0 (fun _ => true) true fuel t cs = some x) :
  ∃ (A : Option Addr) (cap : Nat) (rows : List (List Int)), cs = [.slice A rows.length cap] ∧ rows.length ≤ cap ∧ rows.length ≤ maxLen ∧ Kd.C (Kd.slice eb (Kd.int k)) w A rows.length rows ∧ ∀ r, r ∈ rows → r.length ≤ maxLen ∧ ∀ x ∈ r, (Lit.int k x).wf = true := by
 rcases DataW.trod_slice ht h with ⟨rfl, -⟩ | ⟨a, len, cap, elems, rest, n, rfl, rfl, rfl, -, hl, hm, hlen, hel, -, -⟩
 ·exact ⟨none, 0, [], rfl, Nat.le_refl _, Nat.zero_le _, nil_reads _ _, fun r hr => by simp at hr⟩
 have each : ∀ i, i < len → ∃ r : List Int, (∃ A c, w.cell? (a.add i) = some (.slice A r.length c) ∧ r.length ≤ c ∧ Kd.C (Kd.int k) w A r.length r) ∧ r.length ≤ maxLen ∧ ∀ x ∈ r, (Lit.int k x).wf = true := by
  intro i hi
  have h1 := hel i hi
  rw [hce, Nat.mul_one, List.getElem?_eq_getElem (by omega), Option.bind_eq_some_iff] at h1
  obtain ⟨cs', hcs, hy⟩ := h1
  rcases open_ints he hb hcb hy with ⟨rfl, -⟩ | ⟨a', l', c', zs, rfl, -, hl', hm', hz, -, hcell, hwz⟩
  ·exact ⟨[], ⟨none, 0, cell_of_cells?_one hcs, Nat.le_refl _, nil_reads _ _⟩, Nat.zero_le _, fun x hx => by simp at hx⟩
  ·obtain ⟨r, rfl, h1, h2, h3, h4⟩ := ReadsInt.ofRowC (k := k) (w := w) (a := some a') (len := l') (cap := c') (zs := zs) (.inr ⟨a', rfl, hl', hm', by simpa using hz, hcell, hwz⟩)
   exact ⟨r, ⟨some a', c', cell_of_cells?_one hcs, h4, Kd.C_of_reads (d := (0 : Int)) (h1 := fun _ => rfl) h1⟩, h2, h3⟩
 have all : ∀ m, m ≤ len → ∃ rows : List (List Int), rows.length = m ∧ ∀ (i : Nat) (r : List Int), rows[i]? = some r → (∃ A c, w.cell? (a.add i) = some (.slice A r.length c) ∧ r.length ≤ c ∧ Kd.C (Kd.int k) w A r.length r) ∧ r.length ≤ maxLen ∧ ∀ x ∈ r, (Lit.int k x).wf = true := by
  intro m
  induction m with
  | zero => exact fun _ => ⟨[], rfl, fun i r hr => by simp at hr⟩
  | succ m ih =>
   intro hm
   obtain ⟨rows, e1, e2⟩ := ih (by omega)
   obtain ⟨r, hr⟩ := each m (by omega)
   refine ⟨rows ++ [r], by simp [e1], fun i q hq => ?_⟩
   by_cases hi : i < rows.length
   ·rw [List.getElem?_append_left hi] at hq
    exact e2 i q hq
   ·have hlt := (List.getElem?_eq_some_iff.1 hq).1
    obtain rfl : i = m := by simp at hlt; omega
    rw [List.getElem?_append_right (by omega), e1, Nat.sub_self] at hq
    obtain rfl : r = q := by simpa using hq
    exact hr
 obtain ⟨rows, rfl, hrows⟩ := all len (Nat.le_refl _)
 refine ⟨some a, cap, rows, rfl, hl, Nat.le_trans hl hm, ⟨rfl, Nat.le_trans (Nat.le_trans hl hm) (by decide), fun _ => ⟨a, rfl, fun j p hj => ?_⟩⟩, fun r hr => ?_⟩
 ·obtain ⟨⟨A, c, h1, h2, h3⟩, -, -⟩ := hrows j p hj
  refine ⟨[.slice A p.length c], rfl, ⟨A, c, rfl, h2, h3⟩, fun i u hu => ?_⟩
  cases i with
  | zero =>
   obtain rfl : Value.slice A p.length c = u := by simpa using hu
   show w.cell? (a.add (j * 1 + 0)) = _
   rw [Nat.mul_one]
   exact h1
  | succ i => simp at hu
 ·obtain ⟨j, hj⟩ := List.getElem?_of_mem hr
  exact (hrows j r hj).2
end Go.Proofs.YtpdakdcmahlghaaGreat.RowKit
end
