/- The plain law of TrialZeros: shards of nothing but 0 are everybody's who can have so many. -/
import Derived.Test.YtpdakdcmahlghaaGreatBTrialZeros15
namespace Go.Proofs.YtpdakdcmahlghaaGreat.Pure
open Go.RowKit Go.Proofs.YtpdakdcmahlghaaGreat.XCo Go.Proofs.YtpdakdcmahlghaaGreatW.PrintWords Go.Proofs.YtpdakdcmahlghaaGreatW.PrintLast Go.Proofs.YtpdakdcmahlghaaGreatW.PrintMore
def acz.Pure : Prop := ∀ (a0 : Int) (a1 : Int) (a2 : Int), (Lit.int .u8 a0).wf = true → (Lit.int .u8 a1).wf = true → (Lit.int .u8 a2).wf = true → ∃ k, acz.f k a0 a1 a2 = some true
theorem mN_zero (wb c : Int) : mN wb c 0 = 0 := by
  unfold mN
  rw [show (((0 : Nat)) : Int) = 0 from rfl, b8z]
  rfl
theorem pair_zeros : ∀ m : Nat, pairN (List.replicate (2 * m) 0) = List.replicate m 0
  | 0 => rfl
  | m + 1 => by
    rw [show 2 * (m + 1) = 2 * m + 1 + 1 by omega, List.replicate_succ, List.replicate_succ, List.replicate_succ]
    show (0 + 256 * 0) :: pairN (List.replicate (2 * m) 0) = 0 :: List.replicate m 0
    rw [pair_zeros m]
theorem flat_zeros : ∀ m : Nat, flatN (List.replicate m 0) = List.replicate (2 * m) 0
  | 0 => rfl
  | m + 1 => by
    rw [show 2 * (m + 1) = 2 * m + 1 + 1 by omega, List.replicate_succ, List.replicate_succ, List.replicate_succ]
    show (0 % 256) :: (0 / 256 % 256) :: flatN (List.replicate m 0) = 0 :: 0 :: List.replicate (2 * m) 0
    rw [flat_zeros m]
theorem mulN_zeros {wb : Int} (hw : wb = 8 ∨ wb = 16) (c : Int) (S : Nat) (hS : S % wN wb = 0) : mulN wb c (List.replicate S 0) = List.replicate S 0 := by
  have hmap : ∀ (wb c : Int) (m : Nat), mapN (mN wb c) (List.replicate m 0) = List.replicate m 0 := by
    intro wb c m
    unfold mapN
    rw [List.map_replicate, mN_zero]
  unfold mulN
  rcases hw with rfl | rfl
  · rw [if_pos rfl, hmap]
  · have h2 : S % 2 = 0 := hS
    obtain ⟨m, rfl⟩ : ∃ m, S = 2 * m := ⟨S / 2, by omega⟩
    rw [if_neg (by decide), pair_zeros, hmap, flat_zeros]
theorem xorN_zeros (S : Nat) : xorN (List.replicate S 0) (List.replicate S 0) = List.replicate S 0 := zero_xorN S
theorem fold_zeros (S : Nat) : ∀ (zs : List (List Nat)), (∀ r, r ∈ zs → r = List.replicate S 0) → zs.foldl xorN (List.replicate S 0) = List.replicate S 0
  | [], _ => rfl
  | r :: rs, h => by
    rw [List.foldl_cons, h r (List.mem_cons_self ..), xorN_zeros]
    exact fold_zeros S rs (fun q hq => h q (List.mem_cons_of_mem _ hq))
theorem dotV_zeros {wb : Int} (hw : wb = 8 ∨ wb = 16) (S K : Nat) (hS : S % wN wb = 0) (c : List Int) : dotV S wb c (List.replicate K (List.replicate S 0)) = List.replicate S 0 := by
  have e : List.replicate K (List.replicate S (0 : Int)) = (List.replicate K (List.replicate S 0)).map castN := by
    rw [List.map_replicate]
    congr 1
    unfold castN
    rw [List.map_replicate]
    rfl
  rw [e, dotV_nat hw S c _ (fun r hr => by
    rw [List.eq_of_mem_replicate hr]
    exact ⟨fun x hx => by rw [List.eq_of_mem_replicate hx]; omega, by rw [List.length_replicate]; exact hS⟩)]
  unfold dotN
  rw [fold_zeros S _ (fun r hr => by
    obtain ⟨i, hi, rfl⟩ := List.mem_iff_getElem.1 hr
    rw [List.getElem_zipWith, List.getElem_replicate]
    exact mulN_zeros hw _ S hS)]
  unfold castN
  rw [List.map_replicate]
  rfl
theorem verB_zeros (S : Nat) (q : Int) (K M : Nat) (hmay : aez.f q (K : Int) (M : Int) = some true) (hS : S % wN (pbits q) = 0) : verB S q K M (List.replicate (K + M) (List.replicate S 0)) = true := by
  have hl := parV_len S q K M (List.replicate K (List.replicate S 0)) hmay
  unfold verB
  rw [List.take_replicate, List.drop_replicate, Nat.min_eq_left (by omega), Nat.add_sub_cancel_left]
  refine decide_eq_true ?_
  refine List.eq_replicate_iff.2 ⟨hl, fun r hr => ?_⟩
  unfold parV at hr
  obtain ⟨c, -, rfl⟩ := List.mem_map.1 hr
  exact dotV_zeros (pbits_two q) S K hS c
theorem zeros_l0 (a b size : Nat) (R : Nat → Option Bool) (v : Bool) (ha : a + b ≤ 100) (hs : size ≤ 1000) (hR : ∀ k, (asz.f k (List.replicate (a + b) (List.replicate size 0)) (a : Int)).bind (fun t => acz.l1 k true (a : Int) (b : Int) t 0) = R k) (hv : Ev R v) :
    ∀ (m i : Nat), i + m = a + b → Ev (fun k => acz.l0 k true (a : Int) (b : Int) (size : Int) (List.replicate i (List.replicate size 0)) (i : Int)) v
  | 0, i, hi => by
    have hw : wrap64 ((a : Int) + (b : Int)) = ((a + b : Nat) : Int) := by unfold wrap64; omega
    refine Ev.step (f := R) (fun k => ?_) hv
    rw [acz.l0, hw, if_neg (by omega), show i = a + b by omega]
    exact hR k
  | m + 1, i, hi => by
    have hw : wrap64 ((a : Int) + (b : Int)) = ((a + b : Nat) : Int) := by unfold wrap64; omega
    refine Ev.step (fun k => ?_) (zeros_l0 a b size R v ha hs hR hv m (i + 1) (by omega))
    rw [acz.l0, hw, if_pos (by omega), if_pos (by omega), Int.toNat_natCast, if_pos (by omega), List.length_replicate, if_pos (by omega), ccz (by omega), List.replicate_succ' (n := i)]
theorem zeros_l1 (a b : Nat) (T : List Int) (hT : T.length ≤ 6) (hm : ∀ q, q ∈ T → aez.f q (a : Int) (b : Int) = some true) (want : Int) (hw : (T.length : Int) = want) (hb : want = if (b : Int) > 3 then 5 else 6) : ∀ (m i : Nat), i + m = T.length → Ev (fun k => acz.l1 k true (a : Int) (b : Int) T (i : Int)) true
  | 0, i, hi => by
    refine Ev.step (f := fun _ => some true) (fun k => ?_) (Ev.now _)
    rw [acz.l1, if_neg (by omega), hw]
    by_cases h3 : (b : Int) > 3
    · rw [if_pos h3] at hb
      rw [if_pos h3, if_pos rfl, hb]
      rfl
    · rw [if_neg h3] at hb
      rw [if_neg h3, if_pos rfl, hb]
      rfl
  | m + 1, i, hi => by
    have ih := zeros_l1 a b T hT hm want hw hb m (i + 1) (by omega)
    have hrd : rd T (i : Int) = T[i]'(by omega) := by
      unfold rd
      rw [Int.toNat_natCast, List.getD_eq_getElem?_getD, List.getElem?_eq_getElem (by omega)]
      rfl
    refine Ev.step (fun k => ?_) ih
    rw [acz.l1, if_pos (by omega), if_pos (by omega), hrd, hm _ (List.getElem_mem _), Option.bind_some, if_pos rfl, ccz (by omega)]
theorem TrialZeros : acz.Pure := by
  intro x y z hx hy hz
  have e0 := u8_wf hx
  have e1 := u8_wf hy
  have e2 := u8_wf hz
  clear hx hy hz
  have haw : Ev (fun k => bpz.f k) true := Ev.congr (fun _ => rfl) (Ev.now true)
  obtain ⟨x', rfl⟩ : ∃ n : Nat, x = (n : Int) := ⟨x.toNat, by omega⟩
  obtain ⟨y', rfl⟩ : ∃ n : Nat, y = (n : Int) := ⟨y.toNat, by omega⟩
  obtain ⟨z', rfl⟩ : ∃ n : Nat, z = (n : Int) := ⟨z.toNat, by omega⟩
  obtain ⟨a, hK⟩ : ∃ K, 1 + x' % 8 = K := ⟨_, rfl⟩
  obtain ⟨b, hM⟩ : ∃ M, 1 + y' % 4 = M := ⟨_, rfl⟩
  obtain ⟨u, hU⟩ : ∃ u, 1 + z' % 3 = u := ⟨_, rfl⟩
  have hk : 1 ≤ a ∧ a ≤ 8 := by omega
  have hm : 1 ≤ b ∧ b ≤ 4 := by omega
  have hu : 1 ≤ u ∧ u ≤ 3 := by omega
  have F1 : Aside0 (wrap64 (1 + (Int.tmod (wrap64 (x' : Int)) 8)) = (a : Int)) := ⟨by
    rw [w64 (x := (x' : Int)) (by omega) (by omega), show Int.tmod (x' : Int) 8 = ((x' % 8 : Nat) : Int) from (Int.ofNat_tmod _ _).symm, w64 (by omega) (by omega)]; omega⟩
  have F2 : Aside0 (wrap64 (1 + (Int.tmod (wrap64 (y' : Int)) 4)) = (b : Int)) := ⟨by
    rw [w64 (x := (y' : Int)) (by omega) (by omega), show Int.tmod (y' : Int) 4 = ((y' % 4 : Nat) : Int) from (Int.ofNat_tmod _ _).symm, w64 (by omega) (by omega)]; omega⟩
  have F3 : Aside0 (wrap64 (16 * wrap64 (1 + (Int.tmod (wrap64 (z' : Int)) 3))) = ((16 * u : Nat) : Int)) := ⟨by
    rw [w64 (x := (z' : Int)) (by omega) (by omega), show Int.tmod (z' : Int) 3 = ((z' % 3 : Nat) : Int) from (Int.ofNat_tmod _ _).symm, w64 (x := 1 + ((z' % 3 : Nat) : Int)) (by omega) (by omega), w64 (by omega) (by omega)]; omega⟩
  clear hK hM hU e0 e1 e2
  have htr := c2z a b (16 * u) (List.replicate (a + b) (List.replicate (16 * u) 0)) (by simp) (by omega) (by omega) (fun r hr => by rw [List.eq_of_mem_replicate hr, List.length_replicate]) (by omega)
  have hmay : ∀ q : Int, 1 ≤ q → q ≤ 6 → mayQ q a b = decide (q ≠ 3 ∨ b ≤ 3) := by
    intro q h1 h2
    have h : ∀ mx : Int, (if (a : Int) ≥ 1 then (if (a : Int) ≤ 8 then (if (b : Int) ≥ 1 then some (decide ((b : Int) ≤ mx)) else some false) else some false) else some false) = some (decide ((b : Int) ≤ mx)) := fun mx => by
      rw [if_pos (by omega), if_pos (by omega), if_pos (by omega)]
    have hq : aez.f q (a : Int) (b : Int) = some (decide ((b : Int) ≤ (if q = 3 then 3 else 4))) := by
      rw [← h]
      rcases six h1 h2 with rfl | rfl | rfl | rfl | rfl | rfl <;> rfl
    unfold mayQ
    rw [hq]
    by_cases h3 : q = 3
    · subst h3
      by_cases hb : b ≤ 3
      · simp [hb]; omega
      · simp [hb]; omega
    · simp [h3]; omega
  have hpass : ∀ q : Int, 1 ≤ q → q ≤ 6 → passB (16 * u) q a b (List.replicate (a + b) (List.replicate (16 * u) 0)) = mayQ q a b := by
    intro q h1 h2
    unfold passB
    have hun : (16 * u) % unitN q = 0 := by
      have : unitN q = 8 ∨ unitN q = 16 ∨ unitN q = 1 := by
        rcases six h1 h2 with rfl | rfl | rfl | rfl | rfl | rfl
        · exact .inl rfl
        · exact .inl rfl
        · exact .inr (.inl rfl)
        · exact .inr (.inl rfl)
        · exact .inr (.inr rfl)
        · exact .inr (.inr rfl)
      rcases this with h | h | h <;> rw [h] <;> omega
    cases hmq : mayQ q a b with
    | false => rfl
    | true =>
      rw [verB_zeros (16 * u) q a b (mayQ_true.1 hmq) (unit_even h1 h2 hun)]
      unfold longB
      rw [decide_eq_true (by omega), decide_eq_true hun]
      rfl
  have hfil : all6.filter (fun q => passB (16 * u) q a b (List.replicate (a + b) (List.replicate (16 * u) 0))) = all6.filter (fun q => decide (q ≠ 3 ∨ b ≤ 3)) := by
    refine List.filter_congr (fun q hq => ?_)
    have := dlz.1 hq
    rw [hpass q this.1 this.2, hmay q this.1 this.2]
  rw [hfil] at htr
  have hms : ∀ q, q ∈ all6.filter (fun q => decide (q ≠ 3 ∨ b ≤ 3)) → aez.f q (a : Int) (b : Int) = some true := by
    intro q hq
    obtain ⟨h1, h2⟩ := List.mem_filter.1 hq
    have h3 := dlz.1 h1
    exact mayQ_true.1 ((hmay q h3.1 h3.2).trans h2)
  have hlen : ((all6.filter (fun q => decide (q ≠ 3 ∨ b ≤ 3))).length : Int) = if (b : Int) > 3 then 5 else 6 := by
    have : b = 1 ∨ b = 2 ∨ b = 3 ∨ b = 4 := by omega
    rcases this with rfl | rfl | rfl | rfl <;> decide
  have hT6 : (all6.filter (fun q => decide (q ≠ 3 ∨ b ≤ 3))).length ≤ 6 := List.length_filter_le ..
  generalize all6.filter (fun q => decide (q ≠ 3 ∨ b ≤ 3)) = T at htr hms hlen hT6
  have hl1 := zeros_l1 a b T hT6 hms _ hlen rfl T.length 0 (by omega)
  have hend : Ev (fun k => (asz.f k (List.replicate (a + b) (List.replicate (16 * u) 0)) (a : Int)).bind (fun t => acz.l1 k true (a : Int) (b : Int) t 0)) true := Ev.bind htr hl1
  have hl0 := zeros_l0 a b (16 * u) _ true (by omega) (by omega) (fun k => rfl) hend (a + b) 0 (by omega)
  refine Ev.rounds ?_
  unfold acz.f
  rw [F1.out, F2.out, F3.out]
  exact Ev.bind haw hl0
end Go.Proofs.YtpdakdcmahlghaaGreat.Pure
