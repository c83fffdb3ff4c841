/- The plain law of CodecColumns: parity goes byte by byte, or two by two. -/
import Derived.Test.YtelcllhibpnneaaGreatBCodecColumns19
namespace Go.Proofs.YtelcllhibpnneaaGreat.Pure
open Go.RowKit Go.Proofs.YtelcllhibpnneaaGreat.XCo Go.Proofs.YtelcllhibpnneaaGreatW.PrintWords Go.Proofs.YtelcllhibpnneaaGreatW.PrintLast Go.Proofs.YtelcllhibpnneaaGreatW.PrintMore
def gambrellaw11_CodecColumns.Pure : Prop := ∀ (a0_0 : Int) (a0_1 : Int) (a0_2 : Int) (l1 : List Int) (a2 : Int), (Lit.int .u8 a0_0).wf = true → (Lit.int .u8 a0_1).wf = true → (Lit.int .u8 a0_2).wf = true → l1.length ≤ maxLen → l1.length * 1 ≤ 140737488351232 → (∀ x ∈ l1, (Lit.int .u8 x).wf = true) → (Lit.int .u8 a2).wf = true → ∃ k, gambrellaw11_CodecColumns.f k a0_0 a0_1 a0_2 l1 a2 = some true
theorem cols_loop (p : Int) (K M S q : Nat) (L : List (List Int)) (hS : ∀ r, r ∈ L → r.length = S) (hq : q ≤ S) (hn : L.length ≤ 1000) (hv : Ev (fun k => codec_Verify.f k p (K : Int) (M : Int) (L.map (·.take q))) true) :
    ∀ (m i : Nat), i + m = L.length → Ev (fun k => gambrellaw11_CodecColumns.l0 k true L (q : Int) ((L.map (·.take q)).take i) (i : Int) p (K : Int) (M : Int)) true := by
  intro m
  induction m with
  | zero =>
    intro i hi
    refine Ev.step (f := fun k => (codec_Verify.f k p (K : Int) (M : Int) (L.map (·.take q))).bind fun t => some t) (fun k => ?_) (Ev.bind hv (Ev.now _))
    rw [gambrellaw11_CodecColumns.l0, if_neg (by omega), if_pos rfl, List.take_of_length_le (by simp; omega)]
  | succ m ih =>
    intro i hi
    obtain ⟨row, hrow⟩ : ∃ r, L[i]? = some r := ⟨_, List.getElem?_eq_getElem (by omega)⟩
    have hrl := hS row (List.mem_of_getElem? hrow)
    have hrd : rd_L1 L (i : Int) = row := by unfold rd_L1; rw [Int.toNat_natCast, List.getD_eq_getElem?_getD, hrow]; rfl
    have hlen : ((L.map (·.take q)).take i).length ≤ 1000 := by simp; omega
    refine Ev.step (f := fun k => gambrellaw11_CodecColumns.l0 k true L (q : Int) ((L.map (·.take q)).take (i + 1)) ((i + 1 : Nat) : Int) p (K : Int) (M : Int)) (fun k => ?_) (ih (i + 1) (by omega))
    rw [gambrellaw11_CodecColumns.l0, if_pos (by omega), if_pos (by omega), hrd, if_neg (by omega), if_pos (by omega), if_pos (by omega), if_pos (by omega), wrap64_nat (by omega), Int.toNat_natCast]
    have e : (L.map (·.take q)).take i ++ [row.take q] = (L.map (·.take q)).take (i + 1) := by
      rw [List.take_add_one, List.getElem?_map, hrow]; rfl
    rw [e]
theorem CodecColumns : gambrellaw11_CodecColumns.Pure := by
  intro a b c l cut ha hb hc hl1 hl2 hl3 hcut
  have hx := u8_wf hcut
  clear hl1 hl2 hl3 hcut
  by_cases h300 : (l.length : Int) > 300
  · refine ⟨0, ?_⟩
    unfold gambrellaw11_CodecColumns.f gambrellaw11_awake.f
    rw [Option.bind_some, if_pos h300]
  · obtain ⟨p, K, M, hs, hmay, -, -⟩ := some_ev a b c (u8_wf ha) (u8_wf hb) (u8_wf hc)
    obtain ⟨data, q1, q2, -, q4⟩ := enc_ev p K M l hmay (by omega)
    obtain ⟨p1, p2, k1, k2, m1, m2⟩ := may_true hmay
    have hz1 := sizeN_pos p K l.length
    have hz2 := sizeN_le p K l.length (by omega) (by omega) (by omega)
    have hz3 := sizeN_even p K l.length
    have hpl := parV_len (sizeN p K l.length) p K M data hmay
    generalize sizeN p K l.length = S at q2 q4 hz1 hz2 hz3 hpl
    obtain ⟨L, hL⟩ : ∃ L, data ++ parV S p K M data = L := ⟨_, rfl⟩
    have hLS : ∀ r, r ∈ L → r.length = S := fun r hr => by
      rw [← hL] at hr
      rcases List.mem_append.1 hr with hr | hr
      · exact q2 r hr
      · unfold parV at hr
        obtain ⟨c, -, rfl⟩ := List.mem_map.1 hr
        exact dotV_len hz3 q2
    have hLl : L.length = K + M := by rw [← hL, List.length_append, q1, hpl]
    rw [hL] at q4
    obtain ⟨r0, hr0⟩ : ∃ r, L[0]? = some r := ⟨_, List.getElem?_eq_getElem (by omega)⟩
    have hr0l := hLS r0 (List.mem_of_getElem? hr0)
    have hrd : rd_L1 L 0 = r0 := by unfold rd_L1; rw [show (0 : Int).toNat = 0 from rfl, List.getD_eq_getElem?_getD, hr0]; rfl
    obtain ⟨q, hqq⟩ : ∃ q : Nat, q = (cut.toNat % (S / 2 + 1)) * 2 := ⟨_, rfl⟩
    have hq1 : q ≤ S := by
      have := Nat.mod_lt cut.toNat (show 0 < S / 2 + 1 by omega)
      omega
    have hq2 : q % wN (pbits p) = 0 := by
      unfold wN
      split <;> omega
    have hv : Ev (fun k => codec_Verify.f k p (K : Int) (M : Int) (L.map (·.take q))) true := by
      have h := ver_ev p K M q (data.map (·.take q)) hmay (by simpa using q1) (by omega) hq2 (fun r hr => by
        obtain ⟨x, hx, rfl⟩ := List.mem_map.1 hr
        rw [List.length_take, q2 x hx]; omega)
      rw [parV_take hq1 hq2 q2, ← List.map_append, hL] at h
      exact h
    have hlp : Ev (fun k => gambrellaw11_CodecColumns.l0 k true L (q : Int) [] 0 p (K : Int) (M : Int)) true := by
      have h := cols_loop p K M S q L hLS hq1 (by omega) hv L.length 0 (by omega)
      rw [List.take_zero] at h
      exact h
    refine Ev.rounds ?_
    refine Ev.congr (f := fun k => (codec_Encode.f k p (K : Int) (M : Int) l).bind fun t => if t.2 = 0 then gambrellaw11_CodecColumns.j0 k cut true t.1 ((t.1.length : Int) != wrap64 ((K : Int) + (M : Int))) p (K : Int) (M : Int) else gambrellaw11_CodecColumns.j0 k cut true t.1 true p (K : Int) (M : Int)) (fun k => ?_) ?_
    · unfold gambrellaw11_CodecColumns.f gambrellaw11_awake.f
      rw [Option.bind_some, if_neg h300, hs, Option.bind_some]
    · refine Ev.bind q4 ?_
      have hpos : (0 : Int) < ((K + M : Nat) : Int) := by omega
      have hne : ¬ (((S / 2 + 1 : Nat) : Int) = 0) := by omega
      have w1 : wrap64 (wrap64 ((S : Int) / 2) + 1) = ((S / 2 + 1 : Nat) : Int) := by
        rw [w64 (x := (S : Int) / 2) (by omega) (by omega), w64 (by omega) (by omega)]; omega
      have w2 : wrap64 (Int.tmod (wrap64 cut) ((S / 2 + 1 : Nat) : Int) * 2) = (q : Int) := by
        clear w1
        rw [w64 (x := cut) (by omega) (by omega)]
        obtain ⟨cc, rfl⟩ : ∃ cc : Nat, cut = (cc : Int) := ⟨cut.toNat, by omega⟩
        rw [Int.toNat_natCast] at hqq
        rw [show Int.tmod (cc : Int) ((S / 2 + 1 : Nat) : Int) = ((cc % (S / 2 + 1) : Nat) : Int) from (Int.ofNat_tmod _ _).symm, hqq]
        have hlt := Nat.mod_lt cc (show 0 < S / 2 + 1 by omega)
        generalize cc % (S / 2 + 1) = z at hlt
        rw [w64 (by omega) (by omega)]; omega
      have hw : wrap64 ((K : Int) + (M : Int)) = ((K + M : Nat) : Int) := by
        clear w1 w2
        rw [w64 (by omega) (by omega)]; omega
      refine Ev.step (f := fun k => gambrellaw11_CodecColumns.l0 k true L (q : Int) [] 0 p (K : Int) (M : Int)) (fun k => ?_) hlp
      dsimp only
      rw [if_pos rfl, hw, hLl, show (((K + M : Nat) : Int) != ((K + M : Nat) : Int)) = false by simp, gambrellaw11_CodecColumns.j0, if_neg (by decide), hLl, if_pos hpos, hrd, hr0l, w1, w2, if_neg hne]
end Go.Proofs.YtelcllhibpnneaaGreat.Pure
